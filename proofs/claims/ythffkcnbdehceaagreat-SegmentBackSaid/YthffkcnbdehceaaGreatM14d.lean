/-
 M14d:canonical codes are read back. Plain facts,no program in sight.
-/
import Derived.Test.YthffkcnbdehceaaGreatM06
import Derived.Lib.ItoaNum
import Derived.Test.YthffkcnbdehceaaGreatKm
open List
set_option linter.unusedVariables false
set_option linter.unusedSimpArgs false
set_option linter.unusedSectionVars false
namespace Go.Kw
def eO (l ord:List Nat):Nat:=(ord.map λ i=>2^(15-ai l i)).sum
theorem cY (l a b:List Nat):eO l (a++b)=eO l a+eO l b:=by simp [eO]
theorem o9 (l:List Nat) (i:Nat):eO l [i]=2^(15-ai l i):=by simp [eO]
theorem u1 {l ord:List Nat} {d:Nat} (h:∀ x∈ord,ai l x=d):eO l ord=ord.length*2^(15-d):=by
 unfold eO
 induction ord with
 |nil=>simp
 |cons x r ih=>rw [map_cons,sum_cons,ih λ y hy=>h y (by simp [hy]),h x (by simp),length_cons,Nat.add_mul,Nat.one_mul,Nat.add_comm]
theorem u2 (LS:List Nat):∀ (s:List Nat) (i:Nat),LS.drop i=s->eO LS (bu i s)=jw s
 |[],i,_=>rfl
 |v::s,i,hd=>by
  have hi:LS.getD i 0=v:=by
   have:(LS.drop i)[0]? =some v:=by rw [hd];rfl
   rw [getElem?_drop] at this
   rw [getD_eq_getElem?_getD];simpa using congrArg (λ o=>o.getD 0) this
  have ih:=u2 LS s (i+1) (by rw [<-drop_drop,hd];rfl)
  rw [bu,jw]
  split
  ·rename_i hv
   have e:eO LS (i::bu (i+1) s)=eO LS [i]+eO LS (bu (i+1) s):=cY LS [i] _
   rw [e,o9,ih,kr,if_pos hv,ai,hi]
  ·rename_i hv
   rw [ih,kr,if_neg hv,Nat.zero_add]
theorem Eu (l:List Nat):eO l (aX l)=jw l:=by
 rw [<-u2 l l 0 rfl]
 exact ((bN (key:=ai l) (bu 0 l)).perm.symm.map _).sum_nat
theorem pF:∀ (l:List Nat) (i:Nat),(bu i l).Pairwise (· < ·)
 |[],i=>by simp [bu]
 |n::r,i=>by
  rw [bu]
  split
  ·refine pairwise_cons.2 ⟨λ y hy=> ?_,pF r (i+1)⟩
   have:=ja r (i+1) y hy;omega
  ·exact pF r (i+1)
theorem zI (l:List Nat):(aX l).Nodup:=(bN (bu 0 l)).perm.nodup ((pF l 0).imp λ h=>by omega)
theorem lj (l:List Nat) (x:Nat) (h:0<ai l x):x∈aX l:=by
 refine (bN _).mem.1 ?_
 have:∀ (l:List Nat) (i x:Nat),0<l.getD x 0->i+x∈bu i l:=by
  intro l
  induction l with
  |nil=>intro i x h;simp at h
  |cons n r ih=>
   intro i x h
   cases x with
   |zero=>simp at h;rw [bu,if_pos h];simp
   |succ x=>
    have:=ih (i+1) x (by simpa using h)
    rw [bu];split
    ·exact mem_cons_of_mem _ (by rw [show i+(x+1)=i+1+x by omega];exact this)
    ·rw [show i+(x+1)=i+1+x by omega];exact this
 have:=this l 0 x h
 rwa [Nat.zero_add] at this
theorem kR {α:Type} {P:List α->Prop} (h0:P []) (h1:∀ l x,P l->P (l++[x])) (l:List α):P l:=by
 rw [<-reverse_reverse l]
 induction l.reverse with
 |nil=>exact h0
 |cons x r ih=>rw [reverse_cons];exact h1 _ _ ih
theorem wm {L M:Nat} (h:L<=M) (hM:M<=15):2^(M-L)*2^(15-M)=2^(15-L):=by rw [<-Nat.pow_add];congr 1;omega
theorem Ew (l:List Nat) (hb:∀ i,ai l i<=15):∀ (ord:List Nat) (i:Nat),Srt (ai l) (ord++[i])->eO l (ord++[i])<=2^15->
  (eG l (ord++[i])).1=ord.length+1/\(eG l (ord++[i])).2.2.1=ai l i/\(eG l (ord++[i])).2.1*2^(15-ai l i)=eO l ord/\(eG l (ord++[i])).2.2.2=(eG l ord).2.2.2.set i (eG l (ord++[i])).2.1:=by
 refine kR ?_ ?_
 ·intro i _ _;simp [eG,jb,eO]
 ·intro ord j ih i hs hk
  have hs1:Srt (ai l) (ord++[j]):=hs.left
  have hij:ai l j<=ai l i:=(Srt.append.1 hs).2.2 j (by simp) i (by simp)
  have hk1:eO l (ord++[j])<=2^15:=by rw [cY] at hk;omega
  obtain ⟨h1,h2,h3,_⟩:=ih j hs1 hk1
  have hi15:=hb i
  have hp:0<2^(15-ai l j):=Nat.two_pow_pos _
  have hbound:((eG l (ord++[j])).2.1+1)*2^(15-ai l j)<=2^15:=by
   rw [Nat.add_mul,h3,Nat.one_mul,<-o9,<-cY];exact hk1
  have hc:(eG l (ord++[j])).2.1+1<=2^15:=Nat.le_trans (Nat.le_mul_of_pos_right _ hp) hbound
  have e1:((eG l (ord++[j])).2.1+1)%2^64=(eG l (ord++[j])).2.1+1:=Nat.mod_eq_of_lt (by omega)
  have hq:((eG l (ord++[j])).2.1+1)*2^(ai l i-ai l j)*2^(15-ai l i)=((eG l (ord++[j])).2.1+1)*2^(15-ai l j):=by
   rw [Nat.mul_assoc,wm hij hi15]
  have hc2:((eG l (ord++[j])).2.1+1)*2^(ai l i-ai l j)<=2^15:=Nat.le_trans (Nat.le_mul_of_pos_right _ (Nat.two_pow_pos (15-ai l i))) (by rw [hq];exact hbound)
  have e2:((eG l (ord++[j])).2.1+1)*2^(ai l i-ai l j)%2^64=((eG l (ord++[j])).2.1+1)*2^(ai l i-ai l j):=Nat.mod_eq_of_lt (by omega)
  have hst:(eG l (ord++[j]++[i])).2.1=((eG l (ord++[j])).2.1+1)*2^(ai l i-ai l j):=by
   rw [fc];simp only [jb,h1,h2];rw [if_pos (by omega),e1,e2]
  refine ⟨by rw [fc];simp [jb,h1],by rw [fc];rfl,?_,by rw [fc];rfl⟩
  rw [hst,hq,Nat.add_mul,h3,Nat.one_mul,cY,o9]
structure GoodLens (l:List Nat):Prop where
 le:∀ i,ai l i<=15
 kraft:jw l<=2^15
theorem Ex {l:List Nat} (h:∀ x∈l,x<=15) (i:Nat):ai l i<=15:=by
 rw [ai,getD_eq_getElem?_getD]
 cases hg:l[i]? with
 |none=>simp
 |some v=>simpa using h v (mem_of_getElem? hg)
theorem GoodLens.uB {l:List Nat} (h:ep l=true):GoodLens l:=by
 simp only [ep,Bool.and_eq_true,all_eq_true,decide_eq_true_eq] at h
 exact ⟨Ex h.1,h.2⟩
theorem GoodLens.wC {c l:List Nat} (h:LensOk c l):GoodLens l:=⟨h.le,h.kraft⟩
theorem iK {c l:List Nat} (h:LensOk c l):ep l=true:=by
 simp only [ep,Bool.and_eq_true,all_eq_true,decide_eq_true_eq]
 refine ⟨λ x hx=> ?_,h.kraft⟩
 obtain ⟨i,hi⟩:=mem_iff_getElem?.1 hx
 have:=h.le i;rwa [getD_some hi] at this
theorem zJ (l:List Nat):∀ (more ord:List Nat) (x:Nat),x∉more->(eG l (ord++more)).2.2.2[x]? =(eG l ord).2.2.2[x]?
 |[],ord,x,_=>by simp
 |i::r,ord,x,h=>by
  have:=zJ l r (ord++[i]) x (λ h'=>h (by simp [h']))
  rw [append_assoc] at this
  rw [show ord++i::r=ord++([i]++r) by simp,this,fc]
  exact getElem?_set_ne λ e=>h (by simp [e])
theorem JU {l:List Nat} (h:GoodLens l) {k x:Nat} (hx:(aX l)[k]? =some x):∃ code,(cV l)[x]? =some code/\code*2^(15-ai l x)=eO l ((aX l).take k)/\code<2^ai l x:=by
 have hcat:aX l=(aX l).take k++[x]++(aX l).drop (k+1):=by
  rw [<-au hx,take_append_drop]
 have hs:Srt (ai l) ((aX l).take k++[x]):=by rw [<-au hx];exact Srt.take (cU _) _
 have htot:eO l (aX l)<=2^15:=by rw [Eu];exact h.kraft
 have hk:eO l ((aX l).take k++[x])<=2^15:=by rw [hcat,cY] at htot;omega
 obtain ⟨_,_,h3,h4⟩:=Ew l h.le _ x hs hk
 have hnd:=zI l
 have hxm:=pC l x (mem_of_getElem? hx)
 refine ⟨(eG l ((aX l).take k++[x])).2.1,?_,h3,?_⟩
 ·have e:cV l=(eG l ((aX l).take k++[x]++(aX l).drop (k+1))).2.2.2:=by unfold cV;rw [<-hcat]
  rw [e,zJ l _ _ x,h4]
  ·rw [getElem?_set_self (by rw [qn];exact hxm.1)]
  ·intro hm
   rw [hcat] at hnd
   exact (nodup_append.1 hnd).2.2 x (by simp) x hm rfl
 ·rw [cY,o9,<-h3] at hk
  have hL:=h.le x
  have e:2^15=2^ai l x*2^(15-ai l x):=by rw [<-Nat.pow_add];congr 1;omega
  rw [e,<-Nat.succ_mul] at hk
  exact Nat.le_of_mul_le_mul_right hk (Nat.two_pow_pos _)
theorem Srt.three {α:Type} {key:α->Nat} (n:Nat):∀ {l:List α},Srt key l->l=l.filter (λ x=>decide (key x<n))++l.filter (λ x=>key x==n)++l.filter (λ x=>decide (n<key x))
 |[],_=>rfl
 |x::r,h=>by
  have hr:Srt key r:=(pairwise_cons.1 h).2
  have hx:=(pairwise_cons.1 h).1
  have ih:=Srt.three n hr
  rcases Nat.lt_trichotomy (key x) n with hk|hk|hk
  ·have a:¬ n<key x:=by omega
   have b:¬ key x=n:=by omega
   simp only [filter_cons,hk,a,decide_true,decide_false,if_true,beq_iff_eq,b,if_false,cons_append,Bool.false_eq_true]
   exact congrArg (x:: ·) ih
  ·have e:r.filter (λ x=>decide (key x<n))=[]:=filter_eq_nil_iff.2 λ y hy=>by have:=hx y hy;simp;omega
   have a:¬ key x<n:=by omega
   have b:¬ n<key x:=by omega
   rw [e,nil_append] at ih
   simp only [filter_cons,hk,Nat.lt_irrefl,decide_false,beq_self_eq_true,if_true,Bool.false_eq_true,if_false,e,nil_append,cons_append]
   exact congrArg (x:: ·) ih
  ·have e:r.filter (λ x=>decide (key x<n))=[]:=filter_eq_nil_iff.2 λ y hy=>by have:=hx y hy;simp;omega
   have e2:r.filter (λ x=>key x==n)=[]:=filter_eq_nil_iff.2 λ y hy=>by have:=hx y hy;simp;omega
   have a:¬ key x<n:=by omega
   have b:¬ key x=n:=by omega
   rw [e,e2,nil_append,nil_append] at ih
   simp only [filter_cons,a,hk,decide_true,decide_false,beq_iff_eq,b,if_false,if_true,e,e2,nil_append,Bool.false_eq_true]
   exact congrArg (x:: ·) ih
def oa (l:List Nat) (n:Nat):List Nat:=(aX l).filter λ x=>ai l x==n
def low (l:List Nat) (n:Nat):List Nat:=(aX l).filter λ x=>decide (ai l x<n)
def cn (l:List Nat) (x:Nat):Nat:=(cV l).getD x 0
def uQ (l:List Nat) (n:Nat):Nat:=
 match oa l n with
 |[]=>0
 |x::_=>cn l x
theorem k8 (l:List Nat) (n:Nat):aX l=low l n++oa l n++(aX l).filter λ x=>decide (n<ai l x):=Srt.three n (cU _)
theorem rP {l:List Nat} {n x:Nat} (h:x∈oa l n):ai l x=n:=by simpa using (mem_filter.1 h).2
theorem iL {l:List Nat} (h:GoodLens l) {n m x:Nat} (hx:(oa l n)[m]? =some x):(cV l)[x]? =some (cn l x)/\cn l x*2^(15-n)=eO l (low l n)+m*2^(15-n)/\cn l x<2^n:=by
 have hm:=(List.getElem?_eq_some_iff.1 hx).1
 have hn:=rP (mem_of_getElem? hx)
 have hk:(aX l)[(low l n).length+m]? =some x:=by
  rw [k8 l n,append_assoc,getElem?_append_right (by omega),Nat.add_sub_cancel_left,getElem?_append_left hm];exact hx
 obtain ⟨code,h1,h2,h3⟩:=JU h hk
 have hc:cn l x=code:=by rw [cn,getD_eq_getElem?_getD,h1];rfl
 have ht:(aX l).take ((low l n).length+m)=low l n++(oa l n).take m:=by
  conv=>lhs;rw [k8 l n]
  rw [append_assoc,take_length_add_append,take_append_of_le_length (by omega)]
 rw [hc]
 rw [hn] at h2 h3
 refine ⟨h1,?_,h3⟩
 rw [h2,ht,cY,u1 (d:=n) λ y hy=>rP (mem_of_mem_take hy),length_take,Nat.min_eq_left (by omega)]
theorem u3 {l:List Nat} (h:GoodLens l) {n m x:Nat} (hx:(oa l n)[m]? =some x):uQ l n+m=cn l x:=by
 have hm:=(List.getElem?_eq_some_iff.1 hx).1
 obtain ⟨_,h1,_⟩:=iL h hx
 have h0:(oa l n)[0]? =some (oa l n)[0]:=getElem?_eq_getElem (by omega)
 obtain ⟨_,g1,_⟩:=iL h h0
 have hf:uQ l n=cn l (oa l n)[0]:=by
  unfold uQ
  obtain ⟨y,r,hyr⟩:=exists_cons_of_length_pos (by omega:0<(oa l n).length)
  simp only [hyr,getElem_cons_zero]
 rw [hf]
 have e:(cn l (oa l n)[0]+m)*2^(15-n)=cn l x*2^(15-n):=by rw [Nat.add_mul,g1,h1,Nat.zero_mul,Nat.add_zero]
 exact Nat.eq_of_mul_eq_mul_right (Nat.two_pow_pos _) e
theorem BB {l:List Nat} {x:Nat} (hx:0<ai l x):∃ m:Nat,(oa l (ai l x))[m]? =some x:=by
 have:x∈oa l (ai l x):=mem_filter.2 ⟨lj l x hx,by simp⟩
 exact mem_iff_getElem?.1 this
theorem Ey {l:List Nat} (h:GoodLens l) {x n m y:Nat} (hx:0<ai l x) (hn:n<ai l x) (hy:(oa l n)[m]? =some y):cn l y≠cn l x/2^(ai l x-n):=λ e=>by
 obtain ⟨k,hk⟩:=BB hx
 obtain ⟨_,h1,_⟩:=iL h hk
 obtain ⟨_,g1,_⟩:=iL h hy
 have hL:=h.le x
 have hm:=(List.getElem?_eq_some_iff.1 hy).1
 have hlow:eO l (low l n)+(oa l n).length*2^(15-n)<=eO l (low l (ai l x)):=by
  have hsub:(low l n++oa l n).Sublist (low l (ai l x)):=by
   have e1:low l (ai l x)=(low l n++oa l n++(aX l).filter λ z=>decide (n<ai l z)).filter λ z=>decide (ai l z<ai l x):=by rw [<-k8];rfl
   rw [e1,filter_append,filter_append]
   have e2:(low l n).filter (λ z=>decide (ai l z<ai l x))=low l n:=filter_eq_self.2 λ z hz=>by
    have:=(mem_filter.1 hz).2;simp at this⊢;omega
   have e3:(oa l n).filter (λ z=>decide (ai l z<ai l x))=oa l n:=filter_eq_self.2 λ z hz=>by
    have:=rP hz;simp;omega
   rw [e2,e3]
   exact sublist_append_left _ _
  have hs:eO l (low l n++oa l n)<=eO l (low l (ai l x)):=by
   have:∀ {a b:List Nat},a.Sublist b->eO l a<=eO l b:=by
    intro a b hab
    induction hab with
    |slnil=>exact Nat.le_refl _
    |cons z _ ih=>simp only [eO,map_cons,sum_cons] at ih⊢;exact Nat.le_trans ih (Nat.le_add_left _ _)
    |cons_cons z _ ih=>simp only [eO,map_cons,sum_cons] at ih⊢;exact Nat.add_le_add_left ih _
   exact this hsub
  rw [cY,u1 (d:=n) λ z hz=>rP hz] at hs
  exact hs
 have hq:2^(ai l x-n)*2^(15-ai l x)=2^(15-n):=wm (by omega) hL
 have hlt:cn l x<(cn l y+1)*2^(ai l x-n):=by
  rw [e]
  have:=Nat.lt_div_mul_add (a:=cn l x) (b:=2^(ai l x-n)) (Nat.two_pow_pos _)
  rw [Nat.add_mul,Nat.one_mul];exact this
 have h2:cn l x*2^(15-ai l x)<(cn l y+1)*2^(15-n):=by
  rw [<-hq,<-Nat.mul_assoc]
  exact Nat.mul_lt_mul_of_pos_right hlt (Nat.two_pow_pos _)
 rw [h1,Nat.add_mul,Nat.one_mul,g1] at h2
 have h3:(m+1)*2^(15-n)<=(oa l n).length*2^(15-n):=Nat.mul_le_mul_right _ hm
 rw [Nat.add_mul,Nat.one_mul] at h3
 omega
def cy (l syms:List Nat):List Bool:=syms.flatMap λ s=>aZ (cn l s) (ai l s)
theorem Ez (l a:List Nat) (x:Nat):cy l (a++[x])=cy l a++aZ (cn l x) (ai l x):=by simp [cy]
theorem fC {l:List Nat} (h:GoodLens l):∀ syms:List Nat,(cy l syms).length<=15*syms.length
 |[]=>by simp [cy]
 |s::r=>by
  have ih:=fC h r
  have e:cy l (s::r)=aZ (cn l s) (ai l s)++cy l r:=by simp [cy]
  have:=h.le s
  rw [e,length_append,aW,length_cons];omega
theorem rQ {l:List Nat} (h:GoodLens l) {x:Nat} (hx:0<ai l x):(cV l)[x]? =some (cn l x)/\cn l x<2^ai l x:=by
 obtain ⟨m,hm⟩:=BB hx
 obtain ⟨h1,_,h3⟩:=iL h hm
 exact ⟨h1,h3⟩
theorem qv {l:List Nat} {x:Nat} (hx:x<l.length):l[x]? =some (ai l x):=by
 simp [ai,getD_eq_getElem?_getD,hx]
theorem iM {l:List Nat} (h:ep l=true):∀ x∈l,x<=15:=by
 simp only [ep,Bool.and_eq_true,all_eq_true,decide_eq_true_eq] at h;exact h.1
def lk (v:Nat):Nat:=(max (Lib.bitLen v) 1+6)/7
theorem eP (v:Nat):lk v<=10:=by have:=bitLen_le64 v;unfold lk;omega
def oe (width:Nat) (s:Nat×Nat×Nat×Nat) (x:Nat):Nat×Nat×Nat×Nat:=
 if 0<x/2^width then (s.1+1,s.2.1+(lk (s.1+1-s.2.2.2)+lk (x/2^width)),s.2.2.1+1,s.1+1) else (s.1+1,s.2.1,s.2.2.1,s.2.2.2)
def mi (width:Nat) (l:List Nat):Nat×Nat×Nat×Nat:=l.foldl (oe width) (0,0,0,0)
def jo (width:Nat) (l:List Nat):Nat:=
 (mi width l).2.1+lk l.length+lk width+lk (mi width l).2.2.1+(l.length*width+7)/8
theorem qw (width:Nat) (l:List Nat) (x:Nat):mi width (l++[x])=oe width (mi width l) x:=by simp [mi]
def eQ (width:Nat) (s:Nat×List Bool×List Nat×Nat×Nat) (x:Nat):Nat×List Bool×List Nat×Nat×Nat:=
 if 0<x/2^width then (s.1+1,s.2.1++aZ (x%2^width) width,s.2.2.1++uv (s.1+1-s.2.2.2.2)++uv (x/2^width),s.2.2.2.1+1,s.1+1)
 else (s.1+1,s.2.1++aZ (x%2^width) width,s.2.2.1,s.2.2.2.1,s.2.2.2.2)
def eS (width:Nat) (l:List Nat):Nat×List Bool×List Nat×Nat×Nat:=l.foldl (eQ width) (0,[],[],0,0)
def og (width:Nat) (l:List Nat):List Nat:=
 uv l.length++uv width++uv (eS width l).2.2.2.1++aJ (eS width l).2.1++(eS width l).2.2.1
theorem jf (width:Nat) (l:List Nat) (x:Nat):eS width (l++[x])=eQ width (eS width l) x:=by simp [eS]
def ec (l:List Nat):Nat->Nat
 |0=>0
 |m+1=>if jo m l<jo (ec l m) l then m else ec l m
def bS (l:List Nat):List Nat:=og (ec l 32) l
theorem iN (l:List Nat):∀ m,ec l m<=m-1
 |0=>Nat.le_refl _
 |m+1=>by unfold ec;split;(omega);(have:=iN l m;omega)
end Go.Kw
namespace Go.Kw
open Go.RowKit
structure Pt where
 sv:SV
 bits:Nat
 bys:List Nat
def cO:Enc Pt:=⟨2,λ p=>[p.sv.val,.int .i64 (p.bits:Int)],λ _=>rfl,λ p u h=>by simp at h;rcases h with rfl|rfl<;>rfl⟩
def cz (ps:List Pt):Chunk:=kY (ps.map λ p=>cL p.sv.val 5 (a8 .u8) p.bys)
section
variable {w0 w:World} {cs:List Chunk}
theorem Sat.Ag (h:Sat w0 cs w):Sat w0 (cs++[cz []]) w:=by
 have:Sat w0 (cs++kY []::[]) w:=Sat.ij.2 (by simpa using h)
 exact this
theorem Sat.wF {A:List Chunk} {s:SV} {b:Nat} {l:List Nat} {ps:List Pt} (h:Sat w0 (A++[cL s.val 5 (a8 .u8) l]) w) (i:Nat) (hi:A[i]? =some (cz ps)):Sat w0 (A.set i (cz (ps++[⟨s,b,l⟩]))) w:=by
 have:=h.push i hi
 rw [cz,map_append];exact this
theorem Sat.kW (h:Sat w0 cs w) (i:Nat) {ps:List Pt} (hi:cs[i]? =some (cz ps)):∀ p∈ps,RdL w p.sv.val (a8 .u8) p.bys:=λ p hp=>
 Rd.uC ((h.get hi).1 (cL p.sv.val 5 (a8 .u8) p.bys) (mem_map_of_mem hp))
end
def ez (l:List Nat) (k:Nat):List Nat:=(l.drop (64*k)).take 64
def dE (n:Nat):Nat:=(n+63)/64
theorem pG (l:List Nat) (k:Nat):(l.take (min (64*k+64) l.length)).drop (64*k)=ez l k:=by
 rw [ez,drop_take]
 have:min (64*k+64) l.length-64*k=min 64 (l.length-64*k):=by omega
 rw [this,<-length_drop,<-take_eq_take_min]
theorem cr (l:List Nat) (k:Nat):(ez l k).length=min 64 (l.length-64*k):=by simp [ez]
theorem kS {l:List Nat} {k x:Nat} (h:x∈ez l k):x∈l:=mem_of_mem_drop (mem_of_mem_take h)
def bB (ps:List Pt):List (List Nat×Nat):=ps.map λ p=>(p.bys,p.bits)
def mj (l:List Nat) (k:Nat):List (List Nat×Nat):=(List.range k).map λ i=>(bS (ez l i),0)
theorem H3 (l:List Nat) (k:Nat):mj l (k+1)=mj l k++[(bS (ez l k),0)]:=by simp [mj,range_succ]
theorem u4 (ps:List Pt) (p:Pt):bB (ps++[p])=bB ps++[(p.bys,p.bits)]:=by simp [bB]
theorem dR (ps:List Pt):(bB ps).length=ps.length:=by simp [bB]
def uF (l:List Nat):Nat:=l.foldl (λ m x=>max m (x+1)) 0
theorem H4 (l:List Nat) (x:Nat):uF (l++[x])=max (uF l) (x+1):=by simp [uF]
theorem H5 {l:List Nat} {B:Nat} (h:∀ x∈l,x<B):uF l<=B:=by
 have:∀ (l:List Nat) (m:Nat),m<=B->(∀ x∈l,x<B)->l.foldl (λ m x=>max m (x+1)) m<=B:=by
  intro l
  induction l with
  |nil=>intro m hm _;exact hm
  |cons x r ih=>intro m hm h;exact ih _ (by have:=h x (by simp);show max m (x+1)<=B;omega) λ y hy=>h y (by simp [hy])
 exact this l 0 (Nat.zero_le _) h
theorem BC:∀ (l:List Nat),∀ x∈l,x<uF l:=by
 have mono:∀ (l:List Nat) (m:Nat),m<=l.foldl (λ m x=>max m (x+1)) m:=by
  intro l
  induction l with
  |nil=>intro m;exact Nat.le_refl _
  |cons x r ih=>intro m;exact Nat.le_trans (Nat.le_max_left _ _) (ih _)
 have:∀ (l:List Nat) (m:Nat),∀ x∈l,x<l.foldl (λ m x=>max m (x+1)) m:=by
  intro l
  induction l with
  |nil=>intro m x h;cases h
  |cons y r ih=>
   intro m x h
   rcases mem_cons.1 h with rfl|h
   ·exact Nat.lt_of_lt_of_le (by omega:x<max m (x+1)) (mono r _)
   ·exact ih _ x h
 exact λ l=>this l 0
def dC (c:List Nat) (x:Nat):List Nat:=c.set x (c.getD x 0+1)
def ml (m:Nat) (l:List Nat):List Nat:=l.foldl dC (List.replicate m 0)
theorem EA (m:Nat) (l:List Nat) (x:Nat):ml m (l++[x])=dC (ml m l) x:=by simp [ml]
theorem gY (m:Nat) (l:List Nat):(ml m l).length=m:=by
 have:∀ (l c:List Nat),(l.foldl dC c).length=c.length:=by
  intro l;induction l with
  |nil=>intro c;rfl
  |cons x r ih=>intro c;rw [foldl_cons,ih];simp [dC]
 rw [ml,this];simp
theorem JV (m:Nat) (l:List Nat):∀ x∈ml m l,x<=l.length:=by
 have:∀ (l c:List Nat) (B:Nat),(∀ x∈c,x<=B)->∀ x∈l.foldl dC c,x<=B+l.length:=by
  intro l
  induction l with
  |nil=>intro c B h x hx;simpa using h x hx
  |cons y r ih=>
   intro c B h x hx
   have:=ih (dC c y) (B+1) (λ z hz=>by
    rcases mem_or_eq_of_mem_set hz with hz|rfl
    ·have:=h z hz;omega
    ·rw [getD_eq_getElem?_getD]
     cases hg:c[y]? with
     |none=>simp
     |some v=>have:=h v (mem_of_getElem? hg);simp;exact this) x hx
   simp only [length_cons];omega
 have h:=this l (List.replicate m 0) 0 (λ x hx=>by have:=eq_of_mem_replicate hx;omega)
 simpa [ml] using h
theorem H6 {m:Nat} {l:List Nat} (hm:∀ x∈l,x<m):∀ x∈l,0<(ml m l).getD x 0:=by
 have mono:∀ (l c:List Nat) (j:Nat),c.getD j 0<=(l.foldl dC c).getD j 0:=by
  intro l
  induction l with
  |nil=>intro c j;exact Nat.le_refl _
  |cons y r ih=>
   intro c j
   refine Nat.le_trans ?_ (ih _ j)
   by_cases h:y=j
   ·subst h
    by_cases hl:y<c.length
    ·rw [dC,ew hl];omega
    ·simp [getD_eq_getElem?_getD,getElem?_eq_none (Nat.le_of_not_lt hl)]
   ·rw [dC,dh h];exact Nat.le_refl _
 have:∀ (l c:List Nat),(∀ x∈l,x<c.length)->∀ x∈l,0<(l.foldl dC c).getD x 0:=by
  intro l
  induction l with
  |nil=>intro c _ x h;cases h
  |cons y r ih=>
   intro c hc x h
   have hy:=hc y (by simp)
   by_cases hx:x=y
   ·subst hx
    refine Nat.lt_of_lt_of_le ?_ (mono r _ x)
    rw [dC,ew hy];omega
   ·exact ih (dC c y) (λ z hz=>by simp [dC];exact hc z (by simp [hz])) x ((mem_cons.1 h).resolve_left hx)
 exact this l _ (by simpa using hm)
def bh (l:List Nat):List Nat:=cW (ml (uF l) l)
theorem eB (l:List Nat):(bh l).length=uF l:=by rw [bh,nZ,gY]
theorem gZ (l:List Nat) (h:uF l<=1024):LensOk (ml (uF l) l) (bh l):=GU _ (by have:=eb (ml (uF l) l);rw [gY] at this;omega)
theorem u5 {l:List Nat} (h:uF l<=1024):∀ x∈l,x<(bh l).length/\0<ai (bh l) x:=λ x hx=>by
 have h1:=BC l x hx
 have h2:=H6 (BC l) x hx
 refine ⟨by rw [eB];exact h1,?_⟩
 have:=(gZ l h).zero x (by rw [gY];exact h1)
 rw [ai];omega
def k9 (l:List Nat) (k:Nat):List (List Nat×Nat):=(List.range k).map λ i=>(aJ (cy (bh l) (ez l i)),(cy (bh l) (ez l i)).length)
theorem H7 (l:List Nat) (k:Nat):k9 l (k+1)=k9 l k++[(aJ (cy (bh l) (ez l k)),(cy (bh l) (ez l k)).length)]:=by simp [k9,range_succ]
def u6 (kind:Nat) (p:List Nat×Nat):List Nat:=uv (if kind=0 then p.1.length else p.2)++p.1
def er (kind:Nat) (ps:List (List Nat×Nat)):List Nat:=ps.flatMap (u6 kind)
theorem oh (kind:Nat) (ps:List (List Nat×Nat)) (p:List Nat×Nat):er kind (ps++[p])=er kind ps++u6 kind p:=by simp [er]
def u7 (n kind:Nat) (lens:List Nat):List Nat:=uv n++uv kind++(if kind=1 then uv lens.length++lens.map (· %2^8) else [])
theorem mm (n kind:Nat) (lens:List Nat):(u7 n kind lens).length<=30+lens.length:=by
 have h1:=aN n;have h2:=aN kind;have h3:=aN lens.length
 unfold u7
 split<;>simp<;>omega
def jy (n kind:Nat) (lens:List Nat) (ps:List (List Nat×Nat)):List Nat:=u7 n kind lens++er kind ps
theorem iO {ps:List Pt} {k:Nat} {x:Pt} (h:ps[k]? =some x):(bB ps)[k]? =some (x.bys,x.bits):=by simp [bB,h]
theorem mo (l:List Nat) (h:l.length<=64):(bS l).length<=10000:=by
 have hw:∀ w,w<=31->∀ l:List Nat,(eS w l).2.1.length=l.length*w/\(eS w l).2.2.1.length<=20*l.length:=by
  intro w _
  refine kR ⟨by simp [eS],by simp [eS]⟩ λ l x ih=> ?_
  rw [jf]
  have h1:=aN ((eS w l).1+1-(eS w l).2.2.2.2)
  have h2:=aN (x/2^w)
  unfold eQ
  simp only [length_append,length_cons,length_nil]
  split<;>simp only [length_append,aW]<;>(refine ⟨by rw [ih.1,Nat.add_mul];omega,by omega⟩)
 have hb:=iN l 32
 obtain ⟨h1,h2⟩:=hw (ec l 32) (by omega) l
 have a1:=aN l.length
 have a2:=aN (ec l 32)
 have a3:=aN (eS (ec l 32) l).2.2.2.1
 have hm:l.length*ec l 32<=64*31:=Nat.mul_le_mul h (by omega)
 unfold bS og
 simp only [length_append,aR]
 omega
theorem wo {ps:List Pt} {q:List (List Nat×Nat)} (h:bB ps=q) {C:List Nat×Nat->Prop} (hq:∀ x∈q,C x):∀ p∈ps,C (p.bys,p.bits):=λ p hp=>hq _ (by rw [<-h];exact mem_map_of_mem hp)
theorem Li {l:List Nat} {ps:List Pt} (h:bB ps=mj l (dE l.length)) (hn:l.length<=4096):ps.length<=100/\∀ p∈ps,p.bys.length<=20000/\p.bits<=1000000:=by
 refine ⟨by rw [<-dR,h];simp [mj,dE];omega,wo (C:=λ q=>q.1.length<=20000/\q.2<=1000000) h λ x hx=> ?_⟩
 obtain ⟨i,_,rfl⟩:=mem_map.1 hx
 have:=mo (ez l i) (by rw [cr];omega)
 exact ⟨by show (bS (ez l i)).length<=20000;omega,by show 0<=1000000;omega⟩
theorem Lj {l:List Nat} {ps:List Pt} (h:bB ps=k9 l (dE l.length)) (hn:l.length<=4096) (hm:uF l<=1024):ps.length<=100/\∀ p∈ps,p.bys.length<=20000/\p.bits<=1000000:=by
 refine ⟨by rw [<-dR,h];simp [k9,dE];omega,wo (C:=λ q=>q.1.length<=20000/\q.2<=1000000) h λ x hx=> ?_⟩
 obtain ⟨i,_,rfl⟩:=mem_map.1 hx
 have h1:=fC (GoodLens.wC (gZ l hm)) (ez l i)
 have h2:=cr l i
 exact ⟨by show (aJ (cy (bh l) (ez l i))).length<=20000;rw [aR];omega,by show (cy (bh l) (ez l i)).length<=1000000;omega⟩
def om (l:List Nat) (kind:Nat):List Nat:=jy l.length kind (if kind=1 then bh l else []) (if kind=1 then k9 l (dE l.length) else mj l (dE l.length))
def bW (l:List Nat):Nat:=if (om l 1).length<(om l 0).length then 1 else 0
def du (l:List Nat):List Nat:=if bW l=1 then bh l else []
def l6 (l:List Nat):List (List Nat×Nat):=if bW l=1 then k9 l (dE l.length) else mj l (dE l.length)
theorem EB {l:List Nat} (h:(om l 1).length<(om l 0).length):bW l=1/\du l=bh l/\l6 l=k9 l (dE l.length):=by
 have hk:bW l=1:=by rw [bW,if_pos h]
 exact ⟨hk,by rw [du,if_pos hk],by rw [l6,if_pos hk]⟩
theorem BD {l:List Nat} (h:¬ (om l 1).length<(om l 0).length):bW l=0/\du l=[]/\l6 l=mj l (dE l.length):=by
 have hk:bW l=0:=by rw [bW,if_neg h]
 exact ⟨hk,by rw [du,if_neg (by omega)],by rw [l6,if_neg (by omega)]⟩
theorem ed (l:List Nat):bW l<=1:=by unfold bW;split<;>omega
structure OkN (l:List Nat):Prop where
 len:l.length<=4096
 lt:∀ x∈l,x<1024
theorem OkN.mx {l:List Nat} (h:OkN l):uF l<=1024:=H5 h.lt
theorem xw {l:List Nat} {ps:List Pt} (h:bB ps=l6 l) (hl:OkN l):ps.length<=100/\∀ p∈ps,p.bys.length<=20000/\p.bits<=1000000:=by
 unfold l6 at h
 split at h
 ·exact Lj h hl.len hl.mx
 ·exact Li h hl.len
theorem pH {l:List Nat} (hl:OkN l):(du l).length<=1024:=by
 unfold du
 split
 ·rw [eB];exact hl.mx
 ·simp
theorem xx (l:List Nat):jy l.length (bW l) (du l) (l6 l)=om l (bW l):=rfl
theorem H8 {n kind:Nat} {lens:List Nat} {ps:List Pt} (hll:lens.length<=1024) (h:ps.length<=100) (hb:∀ p∈ps,p.bys.length<=20000/\p.bits<=1000000):(jy n kind lens (bB ps)).length<=3000000:=by
 have h1:=mm n kind lens
 have:∀ ps:List Pt,(∀ p∈ps,p.bys.length<=20000/\p.bits<=1000000)->(er kind (bB ps)).length<=20010*ps.length:=by
  intro ps
  induction ps with
  |nil=>intro _;simp [er,bB]
  |cons p r ih=>
   intro hb
   have h1:=ih λ q hq=>hb q (by simp [hq])
   have h2:=hb p (by simp)
   have e:er kind (bB (p::r))=u6 kind (p.bys,p.bits)++er kind (bB r):=by simp [er,bB]
   have h3:=aN (if kind=0 then p.bys.length else p.bits)
   rw [e,length_append,length_cons,u6,length_append]
   simp only at h3⊢
   omega
 have h2:=this ps hb
 unfold jy
 rw [length_append];omega
def CacheOk (l:List Nat) (last:Nat) (blk:List Nat):Prop:=(last=0/\blk=[])\/∃ q,last=q+1/\q<dE l.length/\blk=ez l q
theorem CacheOk.hit {l blk:List Nat} {k:Nat} (h:CacheOk l (k+1) blk):blk=ez l k:=by
 rcases h with ⟨h,_⟩|⟨q,h1,_,h2⟩
 ·omega
 ·rw [h2,show q=k by omega]
theorem CacheOk.now {l:List Nat} {k:Nat} (h:k<dE l.length):CacheOk l (k+1) (ez l k):= .inr ⟨k,rfl,h,rfl⟩
theorem CacheOk.zero (l:List Nat):CacheOk l 0 []:= .inl ⟨rfl,rfl⟩
theorem zK {l:List Nat} {ps:List Pt} (h:bB ps=l6 l) {k:Nat} (hk:k<dE l.length):∃ p,ps[k]? =some p/\(p.bys,p.bits)=if bW l=1 then (aJ (cy (bh l) (ez l k)),(cy (bh l) (ez l k)).length) else (bS (ez l k),0):=by
 have hl:ps.length=dE l.length:=by rw [<-dR,h];unfold l6;split<;>simp [mj,k9]
 obtain ⟨p,hp⟩:∃ p,ps[k]? =some p:=⟨_,getElem?_eq_getElem (by omega)⟩
 refine ⟨p,hp,?_⟩
 have h1:=iO hp
 rw [h] at h1
 unfold l6 at h1
 split at h1
 ·rename_i h0;rw [if_pos h0]
  rw [k9,getElem?_map,getElem?_range hk] at h1
  exact (Option.some.inj h1).symm
 ·rename_i h0;rw [if_neg h0]
  rw [mj,getElem?_map,getElem?_range hk] at h1
  exact (Option.some.inj h1).symm
theorem JW (l:List Nat) (i:Nat):(ez l (i/64))[i%64]? =l[i]? :=by
 rw [ez,getElem?_take_of_lt (Nat.mod_lt _ (by decide)),getElem?_drop]
 congr 1;omega
theorem H9 {n i:Nat} (h:i<n):i/64<dE n:=by unfold dE;omega
end Go.Kw
namespace Go.Kw
def st1 (v:Nat):Nat:=if v%2^1=1 then v/2^1^^^2197175160 else v/2^1
def oo (v:Nat):Nat->Nat
 |0=>v
 |n+1=>st1 (oo v n)
def oq (i:Nat):Nat:=oo i 4
def Pu (v c:Nat):Nat:=v^^^c
def uR (a:Nat):Nat:=a/2^4^^^oq (a%2^4)
def uU (v c:Nat):Nat:=uR (uR (Pu v c))
def pI (l:List Nat):Nat:=l.foldl uU 4294967295
theorem wq (l:List Nat) (c:Nat):pI (l++[c])=uU (pI l) c:=by simp [pI]
def iP (l:List Nat):Nat:=4294967295^^^pI l
def iQ (v:Nat):List Nat:=[v%2^8,v/2^8%2^8,v/2^16%2^8,v/2^24%2^8]
def aE (l:List Nat):List Nat:=l++iQ (iP l)
theorem ot (v:Nat):∀ x∈iQ v,x<256:=λ x hx=>by
 simp only [iQ,mem_cons,not_mem_nil,or_false] at hx
 omega
theorem aY (l:List Nat):(aE l).length=l.length+4:=by simp [aE,iQ]
theorem cw {a b:Nat} (ha:a<4294967296) (hb:b<4294967296):a^^^b<4294967296:=by
 have:=Nat.xor_lt_two_pow (n:=32) (x:=a) (y:=b) (by omega) (by omega);omega
theorem BE {v:Nat} (h:v<4294967296):st1 v<4294967296:=by
 unfold st1
 split
 ·exact cw (by omega) (by omega)
 ·omega
theorem zL {v:Nat} (h:v<4294967296):∀ n,oo v n<4294967296
 |0=>h
 |n+1=>BE (zL h n)
theorem xy {i:Nat} (h:i<16):oq i<4294967296:=zL (by omega) 4
theorem fu {a:Nat} (h:a<4294967296):uR a<4294967296:=cw (by omega) (xy (by omega))
theorem JX:∀ (l:List Nat),(∀ x∈l,x<256)->pI l<4294967296:=by
 refine kR (λ _=>by simp [pI]) λ l c ih h=> ?_
 rw [wq]
 have h1:=ih λ x hx=>h x (by simp [hx])
 have h2:=h c (by simp)
 exact fu (fu (cw h1 (by omega)))
theorem jg {l:List Nat} (h:∀ x∈l,x<256):iP l<4294967296:=cw (by omega) (JX l h)
def pJ:List Nat:=(List.range 16).map oq
def pK (k:Nat):List Nat:=(List.range k).map oq++List.replicate (16-k) 0
theorem zM {k:Nat} (h:k<=16):(pK k).length=16:=by simp [pK];omega
theorem Ha {k:Nat} (h:k<16):(pK k).set k (oq k)=pK (k+1):=by
 unfold pK
 rw [set_append_right _ _ (by simp),show 16-k=(16-(k+1))+1 by omega,replicate_succ,range_succ]
 simp
theorem Hb:pK 16=pJ:=by simp [pK,pJ]
theorem u9 {i:Nat} (h:i<16):pJ[i]? =some (oq i):=by simp [pJ,h]
theorem ka (width:Nat) (l:List Nat):∀ x∈og width l,x<256:=λ x hx=>by
 have he:∀ l:List Nat,∀ x∈(eS width l).2.2.1,x<256:=by
  refine kR (λ x hx=>by simp [eS] at hx) λ l y ih x hx=> ?_
  rw [jf] at hx
  unfold eQ at hx
  split at hx
  ·simp only [mem_append] at hx
   rcases hx with (hx|hx)|hx
   ·exact ih x hx
   ·exact cN _ x hx
   ·exact cN _ x hx
  ·exact ih x hx
 unfold og at hx
 simp only [mem_append] at hx
 rcases hx with (((hx|hx)|hx)|hx)|hx
 ·exact cN _ x hx
 ·exact cN _ x hx
 ·exact cN _ x hx
 ·exact gA _ x hx
 ·exact he l x hx
theorem My (kind:Nat) (ps:List (List Nat×Nat)) (h:∀ p∈ps,∀ x∈p.1,x<256):∀ x∈er kind ps,x<256:=λ x hx=>by
 obtain ⟨p,hp,hx⟩:=mem_flatMap.1 hx
 rcases mem_append.1 hx with hx|hx
 ·exact cN _ x hx
 ·exact h p hp x hx
theorem CN (n kind:Nat) (lens:List Nat) (ps:List (List Nat×Nat)) (h:∀ p∈ps,∀ x∈p.1,x<256):∀ x∈jy n kind lens ps,x<256:=λ x hx=>by
 unfold jy u7 at hx
 simp only [mem_append] at hx
 rcases hx with ((hx|hx)|hx)|hx
 ·exact cN _ x hx
 ·exact cN _ x hx
 ·split at hx
  ·rcases mem_append.1 hx with hx|hx
   ·exact cN _ x hx
   ·obtain ⟨y,_,rfl⟩:=mem_map.1 hx;omega
  ·cases hx
 ·exact My kind ps h x hx
theorem CO (l:List Nat):∀ p∈l6 l,∀ x∈p.1,x<256:=λ p hp x hx=>by
 unfold l6 at hp
 split at hp
 ·obtain ⟨i,_,rfl⟩:=mem_map.1 hp;exact gA _ x hx
 ·obtain ⟨i,_,rfl⟩:=mem_map.1 hp;exact ka _ _ x hx
theorem qx {α:Type} {l:List α} {k:Nat} {x:α} (h:l[k]? =some x):l.drop k=x::l.drop (k+1):=by
 obtain ⟨hk,rfl⟩:=List.getElem?_eq_some_iff.1 h
 exact drop_eq_getElem_cons hk
def Al:Nat->Nat->List Nat->Nat×Nat×Nat
 |_,_,[]=>(0,0,10)
 |i,v,c::r=>if i=9/\c≠1 then (0,0,9) else if c<128 then (if c=0/\0<i then (0,0,9) else (v+c%2^7*2^(7*i),i+1,0)) else Al (i+1) (v+c%2^7*2^(7*i)) r
def ga (l:List Nat):Nat×Nat×Nat:=Al 0 0 l
theorem Hc:∀ (l:List Nat) (i v:Nat),(Al i v l).2.1<=i+l.length
 |[],i,v=>by simp [Al]
 |c::r,i,v=>by
  have ih:=Hc r (i+1) (v+c%2^7*2^(7*i))
  rw [Al]
  simp only [length_cons]
  split
  ·simp
  ·split
   ·split
    ·simp
    ·simp<;>omega
   ·omega
theorem pL (l:List Nat):(ga l).2.1<=l.length:=by have:=Hc l 0 0;rw [Nat.zero_add] at this;exact this
theorem rR {v x k:Nat} (h:v<2^k):v|||x*2^k=v+x*2^k:=by
 rw [Nat.or_comm,Nat.add_comm,<-Nat.shiftLeft_eq,Nat.shiftLeft_add_eq_or_of_lt h]
theorem JY {k:Nat} (h:k<=8):2^(7*k)<=2^56:=Nat.pow_le_pow_right (by decide) (by omega)
theorem wu {c k:Nat} (hk:k<=9) (h9:¬ (k=9/\c≠1)):c%2^7*2^(7*k)<2^64:=by
 by_cases h:k=9
 ·have:c=1:=Classical.byContradiction λ hc=>h9 ⟨h,hc⟩
  subst h;subst this;decide
 ·have:=JY (by omega:k<=8)
  have h2:c%2^7*2^(7*k)<=c%2^7*2^56:=Nat.mul_le_mul_left _ this
  omega
theorem Mz {v c k:Nat} (hv:v<2^(7*k)) (hk:k<=9) (h9:¬ (k=9/\c≠1)):v|||(c%2^7*2^(7*k)%2^64)=v+c%2^7*2^(7*k):=by
 rw [Nat.mod_eq_of_lt (wu hk h9),rR hv]
theorem EC {v c k:Nat} (hv:v<2^(7*k)):v+c%2^7*2^(7*k)<2^(7*(k+1)):=by
 have e:2^(7*(k+1))=2^7*2^(7*k):=by rw [<-Nat.pow_add];congr 1;omega
 have h:c%2^7*2^(7*k)<=(2^7-1)*2^(7*k):=Nat.mul_le_mul_right _ (by omega)
 rw [Nat.sub_mul] at h
 have:2^(7*k)<=2^7*2^(7*k):=Nat.le_mul_of_pos_left _ (by decide)
 rw [e];omega
theorem O6:∀ y,y<256->(y|||128)%2^7=y%2^7/\128<=(y|||128)/\(y|||128)<256:=by decide+kernel
theorem CP:∀ (f i v x:Nat) (rest:List Nat),x<128^(f+1)->i+f=9->x*2^(7*i)<2^64->(0<x\/i=0)->Al i v (nP f x++rest)=(v+x*2^(7*i),i+(nP f x).length,0)
 |0,i,v,x,rest,hx,hi,hb,h0=>by
  have hx1:x<128:=by simpa using hx
  have h9:i=9:=by omega
  subst h9
  have hx2:x<=1:=by omega
  have hx3:x=1:=by omega
  subst hx3
  simp [nP,Al]
 |f+1,i,v,x,rest,hx,hi,hb,h0=>by
  rw [nP]
  by_cases hs:x<128
  ·rw [if_pos hs]
   have e1:x%2^8=x:=Nat.mod_eq_of_lt (by omega)
   have e2:x%2^7=x:=Nat.mod_eq_of_lt (by omega)
   rw [e1,singleton_append,Al,if_neg (by omega),if_pos hs,if_neg (by omega),e2]
   simp
  ·rw [if_neg hs,cons_append]
   obtain ⟨h1,h2,h3⟩:=O6 (x%2^8) (by omega)
   rw [Al,if_neg (by omega),if_neg (Nat.not_lt.2 h2),h1]
   have hp:2^(7*(i+1))=2^7*2^(7*i):=by rw [<-Nat.pow_add];congr 1;omega
   have hdiv:x/2^7*2^(7*(i+1))+x%2^7*2^(7*i)=x*2^(7*i):=by
    rw [hp,<-Nat.mul_assoc,<-Nat.add_mul]
    congr 1
    have:=Nat.div_add_mod x (2^7);omega
   have hx7:x<2^7*128^(f+1):=by rw [Nat.pow_succ,Nat.mul_comm] at hx;exact hx
   have hb2:x/2^7*2^(7*(i+1))<2^64:=Nat.lt_of_le_of_lt (by rw [<-hdiv];exact Nat.le_add_right _ _) hb
   have ih:=CP f (i+1) (v+x%2^8%2^7*2^(7*i)) (x/2^7) rest (Nat.div_lt_of_lt_mul hx7) (by omega) hb2 (.inl (Nat.div_pos (by omega) (by decide)))
   rw [ih]
   have e8:x%2^8%2^7=x%2^7:=by omega
   rw [e8]
   simp only [length_cons,Prod.mk.injEq,and_true]
   refine ⟨?_,by rw [Nat.add_assoc,Nat.add_comm 1]⟩
   rw [<-hdiv,Nat.add_assoc,Nat.add_comm (x%2^7*2^(7*i))]
theorem pM {x:Nat} (h:x<2^64) (rest:List Nat):ga (uv x++rest)=(x,(uv x).length,0):=by
 have:=CP 9 0 0 x rest (by have:(2:Nat)^64<=128^10:=(by decide);omega) rfl (by simpa using h) (.inr rfl)
 simpa [ga,uv] using this
def aU (ok:Bool) (l:List Nat) (lim:Nat):Nat×Bool×List Nat:=
 if ok=false\/(ga l).2.2≠0\/lim<(ga l).1 then (0,false,l) else ((ga l).1,true,l.drop (ga l).2.1)
theorem gd {x lim:Nat} (h:x<2^64) (hl:x<=lim) (rest:List Nat):aU true (uv x++rest) lim=(x,true,rest):=by
 unfold aU
 rw [pM h,if_neg (by simp;omega)]
 simp
theorem kT (ok:Bool) (l:List Nat) (lim:Nat):(aU ok l lim).1<=lim:=by
 unfold aU;split
 ·simp
 ·rename_i h;simp at h;simp;omega
theorem dK (ok:Bool) (l:List Nat) (lim:Nat):∀ x∈(aU ok l lim).2.2,x∈l:=by
 unfold aU;split
 ·exact λ x h=>h
 ·exact λ x h=>mem_of_mem_drop h
theorem gG (ok:Bool) (l:List Nat) (lim:Nat):(aU ok l lim).2.2.length<=l.length:=by
 unfold aU;split
 ·exact Nat.le_refl _
 ·simp
def rb (l:List Nat) (i:Nat):Nat:=l.getD (i/8) 0/2^(7-i%8)%2
theorem Hd (l:List Nat) (i:Nat):rb l i<2:=Nat.mod_lt _ (by decide)
def ou (l:List Nat) (a:Nat):Nat->Nat
 |0=>0
 |m+1=>2*ou l a m+rb l (a+m)
theorem uc (l:List Nat) (a:Nat):∀ m,ou l a m<2^m
 |0=>by simp [ou]
 |m+1=>by have:=uc l a m;have:=Hd l (a+m);rw [ou,Nat.pow_succ];omega
theorem He {v b:Nat} (hb:b<2) (hv:v<2^63):v*2^1%2^64|||b=2*v+b:=by
 rw [Nat.mod_eq_of_lt (by omega),Nat.or_comm,rR (k:=1) (by omega)];omega
theorem zN:∀ (b0 b1 b2 b3 b4 b5 b6 b7:Bool) (j:Fin 8),(gz b0 128|||(gz b1 64|||(gz b2 32|||(gz b3 16|||(gz b4 8|||(gz b5 4|||(gz b6 2|||gz b7 1)))))))/2^(7-j.val)%2=([b0,b1,b2,b3,b4,b5,b6,b7].getD j.val false).toNat:=by decide+kernel
theorem BF (l:List Bool) (k j:Nat) (hj:j<8):cT l k/2^(7-j)%2=(cA l (8*k+j)).toNat:=by
 have h:=zN (cA l (8*k)) (cA l (8*k+1)) (cA l (8*k+2)) (cA l (8*k+3)) (cA l (8*k+4)) (cA l (8*k+5)) (cA l (8*k+6)) (cA l (8*k+7)) ⟨j,hj⟩
 unfold cT
 refine h.trans (congrArg Bool.toNat ?_)
 match j,hj with
 |0,_=>rfl
 |1,_=>rfl
 |2,_=>rfl
 |3,_=>rfl
 |4,_=>rfl
 |5,_=>rfl
 |6,_=>rfl
 |7,_=>rfl
theorem rS {l:List Bool} {i:Nat} (h:i<l.length):rb (aJ l) i=(cA l i).toNat:=by
 have hg:(aJ l)[i/8]? =some (cT l (i/8)):=by
  unfold aJ;rw [getElem?_map,getElem?_range (by omega)];rfl
 have hd:(aJ l).getD (i/8) 0=cT l (i/8):=by rw [getD_eq_getElem?_getD,hg];rfl
 rw [rb,hd,BF l _ _ (Nat.mod_lt _ (by decide))]
 congr 2;omega
theorem ud (x:Nat):∀ (m k:Nat),k<m->(aZ x m)[k]? =some (decide (x/2^(m-1-k)%2=1))
 |0,k,h=>by omega
 |m+1,0,_=>by simp [aZ]
 |m+1,k+1,h=>by
  have:=ud x m k (by omega)
  rw [aZ,getElem?_cons_succ,this,show m+1-1-(k+1)=m-1-k by omega]
theorem pN (A B:List Bool) (x m:Nat) (hx:x<2^m):∀ k,k<=m->ou (aJ (A++aZ x m++B)) A.length k=x/2^(m-k)
 |0,_=>by rw [ou,Nat.sub_zero,Nat.div_eq_of_lt hx]
 |k+1,hk=>by
  have ih:=pN A B x m hx k (by omega)
  have hl:(A++aZ x m++B).length=A.length+m+B.length:=by simp [aW,Nat.add_assoc]
  have hbit:cA (A++aZ x m++B) (A.length+k)=decide (x/2^(m-1-k)%2=1):=by
   rw [cA,getD_eq_getElem?_getD,append_assoc,getElem?_append_right (by omega),Nat.add_sub_cancel_left,getElem?_append_left (by rw [aW];omega),ud x m k (by omega)];rfl
  rw [ou,ih,rS (by omega),hbit]
  have e:m-k=(m-(k+1))+1:=by omega
  have e2:m-1-k=m-(k+1):=by omega
  rw [e2,e,Nat.pow_succ,<-Nat.div_div_eq_div_mul]
  generalize x/2^(m-(k+1))=q
  by_cases h:q%2=1
  ·rw [decide_eq_true h];simp;omega
  ·rw [decide_eq_false h];simp;omega
theorem cj {v:Nat} (h0:0<v) (h:v<2^64):1<=Lib.bitLen v/\2^(Lib.bitLen v-1)<=v/\v<2^Lib.bitLen v:=Lib.bitLenAux_bounds 64 v h (by omega)
def ir (v:Nat):List Bool:=aZ 0 (Lib.bitLen v-1)++aZ v (Lib.bitLen v)
def ff (v:Nat):List Bool:=ir (Lib.bitLen v)++aZ v (Lib.bitLen v-1)
theorem ue (v:Nat):(ir v).length=Lib.bitLen v-1+Lib.bitLen v:=by simp [ir,aW]
theorem zO (v:Nat):(ff v).length=(Lib.bitLen (Lib.bitLen v)-1+Lib.bitLen (Lib.bitLen v))+(Lib.bitLen v-1):=by simp [ff,ue,aW]
theorem CQ {v:Nat} (h:v<2^32):(ff v).length<=42:=by
 rw [zO]
 have h1:=bitLen_le h
 have h2:Lib.bitLen (Lib.bitLen v)<=6:=bitLen_le (by omega)
 omega
theorem CR (v:Nat):∀ m k,m<=k->aZ (v%2^k) m=aZ v m
 |0,_,_=>rfl
 |m+1,k,h=>by
  rw [aZ,aZ,CR v m k (by omega)]
  congr 2
  have e:v%2^k/2^m%2^1=v/2^m%2^1:=by
   obtain ⟨d,rfl⟩:∃ d,k=m+1+d:=⟨k-(m+1),by omega⟩
   rw [Nat.pow_add,Nat.pow_succ,Nat.mul_assoc,Nat.mod_mul_right_div_self]
   rw [Nat.mod_mul_right_mod]
  rw [e]
theorem Lk (A B:List Bool) (x m k:Nat) (hk:k<m):rb (aJ (A++(aZ x m++B))) (A.length+k)=x/2^(m-1-k)%2:=by
 have hl:(A++(aZ x m++B)).length=A.length+m+B.length:=by simp [aW,Nat.add_assoc]
 rw [rS (by omega),cA,getD_eq_getElem?_getD,getElem?_append_right (by omega),Nat.add_sub_cancel_left,getElem?_append_left (by rw [aW];omega),ud x m k hk]
 rw [Option.getD_some]
 rcases Nat.mod_two_eq_zero_or_one (x/2^(m-1-k)) with h|h
 ·rw [h,decide_eq_false (by omega)];rfl
 ·rw [h,decide_eq_true rfl];rfl
theorem xz (A B:List Bool) {v k:Nat} (hk:k<Lib.bitLen v-1):rb (aJ (A++(ir v++B))) (A.length+k)=0:=by
 unfold ir
 rw [append_assoc,Lk A _ 0 _ k hk,Nat.zero_div]
theorem xA (A B:List Bool) {v:Nat} (h0:0<v) (h:v<2^64):rb (aJ (A++(ir v++B))) (A.length+(Lib.bitLen v-1))=1:=by
 obtain ⟨h1,h2,h3⟩:=cj h0 h
 unfold ir
 have e:A++(aZ 0 (Lib.bitLen v-1)++aZ v (Lib.bitLen v)++B)=(A++aZ 0 (Lib.bitLen v-1))++(aZ v (Lib.bitLen v)++B):=by simp [append_assoc]
 have e2:A.length+(Lib.bitLen v-1)=(A++aZ 0 (Lib.bitLen v-1)).length+0:=by simp [aW]
 rw [e,e2,Lk _ _ _ _ 0 (by omega),Nat.sub_zero]
 have h4:v/2^(Lib.bitLen v-1)=1:=by
  have e3:Lib.bitLen v=(Lib.bitLen v-1)+1:=by omega
  rw [e3,Nat.pow_succ] at h3
  exact Nat.div_eq_of_lt_le (by omega) (by omega)
 rw [h4]
theorem xB (A B:List Bool) {v:Nat} (h0:0<v) (h:v<2^64):ou (aJ (A++(ir v++B))) (A.length+(Lib.bitLen v-1)) (Lib.bitLen v)=v:=by
 obtain ⟨h1,h2,h3⟩:=cj h0 h
 unfold ir
 have e:A++(aZ 0 (Lib.bitLen v-1)++aZ v (Lib.bitLen v)++B)=(A++aZ 0 (Lib.bitLen v-1))++aZ v (Lib.bitLen v)++B:=by simp [append_assoc]
 have e2:A.length+(Lib.bitLen v-1)=(A++aZ 0 (Lib.bitLen v-1)).length:=by simp [aW]
 rw [e,e2,pN _ _ _ _ h3 _ (Nat.le_refl _),Nat.sub_self,Nat.pow_zero,Nat.div_one]
theorem xC (A B:List Bool) (v m:Nat):ou (aJ (A++(aZ v m++B))) A.length m=v%2^m:=by
 rw [<-CR v m m (Nat.le_refl _),<-append_assoc,pN A B _ m (Nat.mod_lt _ (Nat.two_pow_pos m)) m (Nat.le_refl _),Nat.sub_self,Nat.pow_zero,Nat.div_one]
theorem xD {v:Nat} (h0:0<v) (h:v<2^64):2^(Lib.bitLen v-1)+v%2^(Lib.bitLen v-1)=v:=by
 obtain ⟨h1,h2,h3⟩:=cj h0 h
 have e3:Lib.bitLen v=(Lib.bitLen v-1)+1:=by omega
 have h4:v/2^(Lib.bitLen v-1)=1:=by
  rw [e3,Nat.pow_succ] at h3
  exact Nat.div_eq_of_lt_le (by omega) (by omega)
 have:=Nat.div_add_mod v (2^(Lib.bitLen v-1))
 rw [h4] at this;omega
def Hf (l:List Nat) (a x:Nat):Prop:=(∀ k,k<Lib.bitLen x-1->rb l (a+k)=0)/\rb l (a+(Lib.bitLen x-1))=1/\ou l (a+(Lib.bitLen x-1)) (Lib.bitLen x)=x
def Hg (l:List Nat) (a x:Nat):Prop:=Hf l a (Lib.bitLen x)/\ou l (a+(2*(Lib.bitLen (Lib.bitLen x)-1)+1)) (Lib.bitLen x-1)=x%2^(Lib.bitLen x-1)
theorem Hh (A B:List Bool) {x:Nat} (h0:0<x) (h:x<2^64):Hf (aJ (A++(ir x++B))) A.length x:=
 ⟨λ k hk=>xz A B hk,xA A B h0 h,xB A B h0 h⟩
theorem Hi (A B:List Bool) {x:Nat} (h0:0<x) (h:x<2^64):Hg (aJ (A++(ff x++B))) A.length x:=by
 obtain ⟨h1,h2,h3⟩:=cj h0 h
 have h4:=bitLen_le64 x
 have h5:=(cj (v:=Lib.bitLen x) (by omega) (by omega)).1
 have e:A++(ff x++B)=A++(ir (Lib.bitLen x)++(aZ x (Lib.bitLen x-1)++B)):=by unfold ff;simp only [append_assoc]
 refine ⟨by rw [e];exact Hh A _ (by omega) (by omega),?_⟩
 have e2:A++(ff x++B)=(A++ir (Lib.bitLen x))++(aZ x (Lib.bitLen x-1)++B):=by rw [e,append_assoc]
 have e3:A.length+(2*(Lib.bitLen (Lib.bitLen x)-1)+1)=(A++ir (Lib.bitLen x)).length:=by rw [length_append,ue];omega
 rw [e2,e3,xC]
def dn:Nat->List Nat->List Bool
 |_,[]=>[]
 |bf,p::r=>ff (p+1-bf)++dn (p+1) r
def MA (bf:Nat) (l:List Nat):Nat:=l.foldl (λ _ p=>p+1) bf
theorem Hj (bf:Nat) (l:List Nat) (p:Nat):MA bf (l++[p])=p+1:=by simp [MA]
theorem zP:∀ (l:List Nat) (bf p:Nat),dn bf (l++[p])=dn bf l++ff (p+1-MA bf l)
 |[],bf,p=>by simp [dn,MA]
 |q::r,bf,p=>by
  rw [cons_append,dn,dn,zP r,append_assoc];rfl
theorem xE:∀ (l r:List Nat) (bf:Nat),dn bf (l++r)=dn bf l++dn (MA bf l) r
 |[],r,bf=>rfl
 |q::l,r,bf=>by rw [cons_append,dn,dn,xE l r,append_assoc];rfl
structure OkP (l:List Nat):Prop where
 len:l.length<=4096
 asc:l.Pairwise (· < ·)
 lt:∀ p∈l,p<4096
theorem kb:∀ (l:List Nat) (bf:Nat),(∀ p∈l,p<4096)->(dn bf l).length<=42*l.length
 |[],_,_=>Nat.zero_le _
 |p::r,bf,h=>by
  have h1:=kb r (p+1) λ q hq=>h q (mem_cons_of_mem _ hq)
  have h2:(ff (p+1-bf)).length<=42:=CQ (by have:=h p (by simp);omega)
  rw [dn,length_append,length_cons];omega
def zQ (l:List Nat) (i:Nat):Nat:=MA 0 (l.take i)
theorem ow {l:List Nat} {i p:Nat} (h:l[i]? =some p):zQ l (i+1)=p+1:=by unfold zQ;rw [au h,Hj]
theorem BG {l:List Nat} (h:OkP l) {i p:Nat} (hp:l[i]? =some p):zQ l i<=p:=by
 cases i with
 |zero=>exact Nat.zero_le _
 |succ i=>
  have hi:=ch hp
  obtain ⟨q,hq⟩:∃ q,l[i]? =some q:=⟨_,getElem?_eq_getElem (by omega)⟩
  rw [ow hq]
  have h1:=List.getElem?_eq_some_iff.1 hq
  have h2:=List.getElem?_eq_some_iff.1 hp
  have:=pairwise_iff_getElem.1 h.asc i (i+1) (by omega) hi (by omega)
  rw [h1.2,h2.2] at this
  exact this
def jA (l:List Nat):Nat->List (Nat×Nat)
 |0=>[]
 |i+1=>if i%16=0 then jA l i++[(l.getD i 0,(dn 0 (l.take i)).length)] else jA l i
theorem ox (l:List Nat):∀ i,(jA l i).length=(i+15)/16
 |0=>rfl
 |i+1=>by
  unfold jA
  have:=ox l i
  split
  ·rw [length_append,this,length_singleton];omega
  ·rw [this];omega
theorem rT (l:List Nat):∀ i k x,(jA l i)[k]? =some x->x=(l.getD (16*k) 0,(dn 0 (l.take (16*k))).length)/\16*k<i
 |0,k,x,h=>by simp [jA] at h
 |i+1,k,x,h=>by
  unfold jA at h
  split at h
  ·rename_i h16
   rcases Nat.lt_or_ge k (jA l i).length with h1|h1
   ·rw [getElem?_append_left h1] at h
    have:=rT l i k x h;exact ⟨this.1,by omega⟩
   ·rw [getElem?_append_right h1] at h
    have h2:=ch h
    have e:k-(jA l i).length=0:=by simp at h2;omega
    rw [e] at h;cases h
    rw [ox] at h1 e
    have e2:16*k=i:=by omega
    rw [e2];exact ⟨rfl,by omega⟩
  ·have:=rT l i k x h;exact ⟨this.1,by omega⟩
def ED (s:List (Nat×Nat)):Nat->List Nat
 |0=>[]
 |k+1=>if k=0 then [] else ED s k++uv ((s.getD k (0,0)).1-(s.getD (k-1) (0,0)).1)++uv ((s.getD k (0,0)).2-(s.getD (k-1) (0,0)).2)
theorem Hk (s:List (Nat×Nat)):∀ k,∀ x∈ED s k,x<256
 |0,x,h=>by cases h
 |k+1,x,h=>by
  unfold ED at h
  split at h
  ·cases h
  ·rcases mem_append.1 h with h|h
   ·rcases mem_append.1 h with h|h
    ·exact Hk s k x h
    ·exact cN _ x h
   ·exact cN _ x h
theorem CS (s:List (Nat×Nat)):∀ k,(ED s k).length<=20*k
 |0=>Nat.zero_le _
 |k+1=>by
  unfold ED
  split
  ·exact Nat.zero_le _
  ·have h1:=CS s k
   have h2:=aN ((s.getD k (0,0)).1-(s.getD (k-1) (0,0)).1)
   have h3:=aN ((s.getD k (0,0)).2-(s.getD (k-1) (0,0)).2)
   rw [length_append,length_append];omega
def oy (l:List Nat):List Nat:=uv l.length++uv (dn 0 l).length++aJ (dn 0 l)++ED (jA l l.length) (jA l l.length).length
theorem kc (l:List Nat):∀ x∈oy l,x<256:=λ x h=>by
 unfold oy at h
 rcases mem_append.1 h with h|h
 ·rcases mem_append.1 h with h|h
  ·rcases mem_append.1 h with h|h<;>exact cN _ x h
  ·exact gA _ x h
 ·exact Hk _ _ x h
theorem jh {l:List Nat} (h:OkP l):(oy l).length<=40000:=by
 unfold oy
 have h1:=aN l.length
 have h2:=aN (dn 0 l).length
 have h3:=kb l 0 h.lt
 have h4:=CS (jA l l.length) (jA l l.length).length
 have h5:=h.len
 rw [length_append,length_append,length_append,aR]
 rw [ox] at h4⊢
 omega
def dq (s:ByteArray):List Nat:=uv s.size++aV s
def mq (l:List Nat):List Nat:=uv l.length++l
def rU (ps:List Pr):List Nat:=uv ps.length++ps.flatMap λ p=>dq p.1++dq p.2
theorem cC {x y:Nat} {r s:List Nat} (hx:x<2^64) (hy:y<2^64) (h:uv x++r=uv y++s):x=y/\r=s:=by
 have h1:=pM hx r
 rw [h,pM hy s] at h1
 have e:x=y:=(congrArg Prod.fst h1).symm
 subst e
 exact ⟨rfl,append_cancel_left h⟩
theorem BH {l m r s:List Nat} (hl:l.length<2^64) (hm:m.length<2^64) (h:mq l++r=mq m++s):l=m/\r=s:=by
 unfold mq at h
 rw [append_assoc,append_assoc] at h
 obtain ⟨h1,h2⟩:=cC hl hm h
 exact append_inj h2 h1
theorem uf {s t:ByteArray} (h:aV s=aV t):s=t:=by
 unfold aV at h
 have:s.data.toList=t.data.toList:=List.map_inj_right (λ a b h=>UInt8.toNat_inj.1 h)|>.1 h
 cases s;cases t
 simpa [Array.toList_inj] using this
theorem mr {a b:ByteArray} {r s:List Nat} (ha:a.size<2^64) (hb:b.size<2^64) (h:dq a++r=dq b++s):a=b/\r=s:=by
 unfold dq at h
 rw [append_assoc,append_assoc] at h
 obtain ⟨h1,h2⟩:=cC ha hb h
 obtain ⟨h3,h4⟩:=append_inj h2 (by rw [az,az,h1])
 exact ⟨uf h3,h4⟩
theorem xF {α β:Type} (f:α->List Nat) (g:α->β) (ok:α->Prop) (hf:∀ x y r s,ok x->ok y->f x++r=f y++s->g x=g y/\r=s):∀ (l m:List α) (r s:List Nat),(∀ x∈l,ok x)->(∀ x∈m,ok x)->l.length=m.length->l.flatMap f++r=m.flatMap f++s->l.map g=m.map g/\r=s
 |[],[],r,s,_,_,_,h=>⟨rfl,h⟩
 |[],_::_,_,_,_,_,h,_=>by cases h
 |_::_,[],_,_,_,_,h,_=>by cases h
 |x::l,y::m,r,s,hl,hm,hlen,h=>by
  rw [flatMap_cons,flatMap_cons,append_assoc,append_assoc] at h
  obtain ⟨h1,h2⟩:=hf x y _ _ (hl x (by simp)) (hm y (by simp)) h
  obtain ⟨h3,h4⟩:=xF f g ok hf l m r s (λ z hz=>hl z (by simp [hz])) (λ z hz=>hm z (by simp [hz])) (by simpa using hlen) h2
  exact ⟨by rw [map_cons,map_cons,h1,h3],h4⟩
def Hl (p:Pr):Prop:=p.1.size<2^64/\p.2.size<2^64
theorem Hm {ps qs:List Pr} {r s:List Nat} (h1:∀ p∈ps,Hl p) (h2:∀ p∈qs,Hl p) (h3:ps.length<2^64) (h4:qs.length<2^64) (h:rU ps++r=rU qs++s):ps=qs/\r=s:=by
 unfold rU at h
 rw [append_assoc,append_assoc] at h
 obtain ⟨e1,e2⟩:=cC h3 h4 h
 have:=xF (λ p:Pr=>dq p.1++dq p.2) id Hl (λ x y r s hx hy h=>by
  simp only [append_assoc] at h
  obtain ⟨a1,a2⟩:=mr hx.1 hy.1 h
  obtain ⟨b1,b2⟩:=mr hx.2 hy.2 a2
  exact ⟨Prod.ext a1 b1,b2⟩) ps qs r s h1 h2 e1 e2
 simpa using this
theorem EE {a b:List Bool} (hl:a.length=b.length) (h:aJ a=aJ b):a=b:=by
 apply ext_getElem hl
 intro i h1 h2
 have e1:=rS h1
 have e2:=rS h2
 rw [h,e2] at e1
 unfold cA at e1
 rw [getD_eq_getElem?_getD,getD_eq_getElem?_getD,getElem?_eq_getElem h1,getElem?_eq_getElem h2] at e1
 simp only [Option.getD_some] at e1
 cases ha:a[i]<;>cases hb:b[i]<;>simp_all
theorem JZ {x y:Nat} {r s:List Bool} (hx0:0<x) (hx:x<2^32) (hy0:0<y) (hy:y<2^32) (h:ff x++r=ff y++s):x=y/\r=s:=by
 obtain ⟨a1,a2,a3⟩:=cj hx0 (by omega)
 obtain ⟨b1,b2,b3⟩:=cj hy0 (by omega)
 have a4:=bitLen_le hx
 have b4:=bitLen_le hy
 have hP:aJ ([]++(ir (Lib.bitLen x)++(aZ x (Lib.bitLen x-1)++r)))=aJ ([]++(ir (Lib.bitLen y)++(aZ y (Lib.bitLen y-1)++s))):=by
  unfold ff at h
  simp only [append_assoc,nil_append] at h⊢
  rw [h]
 have m:Lib.bitLen (Lib.bitLen x)=Lib.bitLen (Lib.bitLen y):=by
  have c1:=(cj (v:=Lib.bitLen x) (by omega) (by omega)).1
  have c2:=(cj (v:=Lib.bitLen y) (by omega) (by omega)).1
  rcases Nat.lt_trichotomy (Lib.bitLen (Lib.bitLen x)) (Lib.bitLen (Lib.bitLen y)) with q|q|q
  ·have e1:=xA [] (aZ x (Lib.bitLen x-1)++r) (v:=Lib.bitLen x) (by omega) (by omega)
   rw [hP,xz [] _ (by omega)] at e1
   cases e1
  ·exact q
  ·have e1:=xA [] (aZ y (Lib.bitLen y-1)++s) (v:=Lib.bitLen y) (by omega) (by omega)
   rw [<-hP,xz [] _ (by omega)] at e1
   cases e1
 have n:Lib.bitLen x=Lib.bitLen y:=by
  have e1:=xB [] (aZ x (Lib.bitLen x-1)++r) (v:=Lib.bitLen x) (by omega) (by omega)
  rw [hP,m,xB [] _ (by omega) (by omega)] at e1
  exact e1.symm
 unfold ff at h
 rw [n,append_assoc,append_assoc] at h
 have h2:=append_cancel_left h
 obtain ⟨h3,h4⟩:=append_inj h2 (by simp [aW])
 have e1:=xC [] [] x (Lib.bitLen y-1)
 rw [h3,xC] at e1
 have t1:=xD hx0 (by omega)
 have t2:=xD hy0 (by omega)
 rw [n] at t1
 exact ⟨by omega,h4⟩
theorem Hn:∀ (l m:List Nat) (bf:Nat),l.length=m.length->(∀ p∈l,p<4096)->(∀ p∈m,p<4096)->l.Pairwise (· < ·)->m.Pairwise (· < ·)->(∀ p∈l,bf<=p)->(∀ p∈m,bf<=p)->dn bf l=dn bf m->l=m
 |[],[],_,_,_,_,_,_,_,_,_=>rfl
 |[],_::_,_,h,_,_,_,_,_,_,_=>by cases h
 |_::_,[],_,h,_,_,_,_,_,_,_=>by cases h
 |p::l,q::m,bf,hlen,h1,h2,h3,h4,h5,h6,h=>by
  rw [dn,dn] at h
  have hp:=h1 p (by simp);have hq:=h2 q (by simp);have hp':=h5 p (by simp);have hq':=h6 q (by simp)
  obtain ⟨e1,e2⟩:=JZ (by omega) (by omega) (by omega) (by omega) h
  have e:p=q:=by omega
  subst e
  obtain ⟨a1,a2⟩:=pairwise_cons.1 h3
  obtain ⟨b1,b2⟩:=pairwise_cons.1 h4
  rw [Hn l m (p+1) (by simpa using hlen) (λ z hz=>h1 z (by simp [hz])) (λ z hz=>h2 z (by simp [hz])) a2 b2 (λ z hz=>a1 z hz) (λ z hz=>b1 z hz) e2]
theorem K0 {l m:List Nat} (hl:OkP l) (hm:OkP m) (h:oy l=oy m):l=m:=by
 unfold oy at h
 simp only [append_assoc] at h
 have:=hl.len;have:=hm.len
 have g1:=kb l 0 hl.lt;have g2:=kb m 0 hm.lt
 obtain ⟨e1,h⟩:=cC (by omega) (by omega) h
 obtain ⟨e2,h⟩:=cC (by omega) (by omega) h
 obtain ⟨e3,_⟩:=append_inj h (by rw [aR,aR,e2])
 exact Hn l m 0 e1 hl.lt hm.lt hl.asc hm.asc (λ _ _=>Nat.zero_le _) (λ _ _=>Nat.zero_le _) (EE e2 e3)
def cZ (vs:List ByteArray):List Nat:=vs.map (l5 (aw vs))
def dy (ns:List Nat) (n:Nat):List Nat:=(List.range ns.length).filter λ i=>decide (ns[i]? =some n)
theorem ug {ns:List Nat} {n i:Nat}:i∈dy ns n↔ns[i]? =some n:=by
 unfold dy
 rw [mem_filter,mem_range,decide_eq_true_eq]
 exact ⟨λ h=>h.2,λ h=>⟨(List.getElem?_eq_some_iff.1 h).1,h⟩⟩
theorem ia {ns:List Nat} (n:Nat) (h:ns.length<=4096):OkP (dy ns n):=by
 refine ⟨?_,?_,λ p hp=> ?_⟩
 ·have:=length_filter_le (λ i=>decide (ns[i]? =some n)) (List.range ns.length)
  rw [length_range] at this;exact Nat.le_trans this h
 ·exact (pairwise_lt_range (n:=ns.length)).filter _
 ·have:=(List.getElem?_eq_some_iff.1 (ug.1 hp)).1;omega
theorem EF (ns:List Nat) (x n:Nat):dy (ns++[x]) n=if x=n then dy ns n++[ns.length] else dy ns n:=by
 unfold dy
 rw [length_append,length_singleton,range_succ,filter_append]
 have e:(List.range ns.length).filter (λ i=>decide ((ns++[x])[i]? =some n))=(List.range ns.length).filter λ i=>decide (ns[i]? =some n):=by
  apply filter_congr
  intro i hi
  rw [getElem?_append_left (mem_range.1 hi)]
 rw [e]
 by_cases h:x=n
 ·rw [if_pos h];simp [h]
 ·rw [if_neg h];simp [h]
theorem rV {vs:List ByteArray}:∀ x∈cZ vs,x<(aw vs).length:=λ x hx=>by
 obtain ⟨v,hv,rfl⟩:=mem_map.1 hx
 exact (List.getElem?_eq_some_iff.1 (gE hv)).1
theorem K1 {vs us:List ByteArray} (hW:aw vs=aw us) (hN:cZ vs=cZ us):vs=us:=by
 have hl:vs.length=us.length:=by have:=congrArg List.length hN;simpa [cZ] using this
 apply ext_getElem hl
 intro i h1 h2
 have e:(cZ vs)[i]? =(cZ us)[i]? :=by rw [hN]
 unfold cZ at e
 rw [getElem?_map,getElem?_map,getElem?_eq_getElem h1,getElem?_eq_getElem h2] at e
 simp only [Option.map_some,Option.some.injEq] at e
 have a1:=gE (getElem_mem h1)
 have a2:=gE (getElem_mem h2)
 rw [e,hW,a2] at a1
 exact (Option.some.inj a1).symm
theorem K2 {ns ms:List Nat} {k:Nat} (h1:∀ x∈ns,x<k) (h2:∀ x∈ms,x<k) (h:∀ n,n<k->dy ns n=dy ms n):ns=ms:=by
 have key:∀ (a b:List Nat),(∀ x∈a,x<k)->(∀ n,n<k->dy a n=dy b n)->∀ (i:Nat) x,a[i]? =some x->b[i]? =some x:=λ a b ha hab i x hx=>by
  have:=ug.2 hx
  rw [hab x (ha x (mem_get' hx))] at this
  exact ug.1 this
 apply ext_getElem?
 intro i
 cases h3:ns[i]? with
 |some x=>exact (key ns ms h1 h i x h3).symm
 |none=>
  cases h4:ms[i]? with
  |none=>rfl
  |some x=>rw [key ms ns h2 (λ n hn=>(h n hn).symm) i x h4] at h3;cases h3
where mem_get' {α:Type} {l:List α} {i:Nat} {x:α} (h:l[i]? =some x):x∈l:=mem_of_getElem? h
section
variable (X:List ByteArray->List Nat) (T:List Nat->List Nat)
def xG (ns:List Nat) (k:Nat):List Nat:=(List.range k).flatMap λ n=>mq (aE (oy (dy ns n)))
def kd (a:ByteArray×Bool) (vs:List ByteArray):List Nat:=dq a.1++(uv (if a.2 then 1 else 0)++(mq (X vs)++(mq (T (cZ vs))++xG (cZ vs) (aw vs).length)))
def ib (at_:List (ByteArray×Bool)) (tk:List (List ByteArray)) (k:Nat):List Nat:=(List.range k).flatMap λ i=>kd X T (at_.getD i (ByteArray.empty,false)) (tk.map λ t=>t.getD i ByteArray.empty)
abbrev kU:=ByteArray×Int×Int×List Pr
def Iv.v (x:Iv):kU:=(x.nm,x.b,x.e,x.ps)
def ic (x:kU):List Nat:=dq x.1++(uv (x.2.2.1-x.2.1).toNat++rU x.2.2.2)
def Ll (bf:Int) (x:kU):List Nat:=dq x.1++(uv (x.2.1-bf).toNat++(uv (x.2.2.1-x.2.1).toNat++rU x.2.2.2))
def fD:Int->List kU->List Nat
 |_,[]=>[]
 |bf,x::r=>Ll bf x++fD x.2.1 r
def MB (bf:Int) (l:List kU):Int:=l.foldl (λ _ x=>x.2.1) bf
theorem wx:∀ (l:List kU) (bf:Int) (x:kU),fD bf (l++[x])=fD bf l++Ll (MB bf l) x
 |[],bf,x=>by simp [fD,MB]
 |y::l,bf,x=>by rw [cons_append,fD,fD,wx l,append_assoc];rfl
def uh (x:Nd):List Nat:=dq x.nm++(uv (x.p+1).toNat++(uv x.b.toNat++uv (x.e-x.b).toNat))
def pO (x:Int×ByteArray):List Nat:=uv (x.1+1).toNat++dq x.2
structure mu where
 at_:List (ByteArray×Bool)
 tk:List (List ByteArray)
 tx:List kU
 rg:List kU
 nd:List Nd
 hd:List Int
 rl:List ByteArray
def Co.v (c:Co):mu:=⟨c.at_,c.tk.map (·.ns),c.tx.map Iv.v,c.rg.map Iv.v,c.nd,c.hd,c.rl⟩
def di (c:mu):List Nat:=[67,83,49]++(uv c.at_.length++(ib X T c.at_ c.tk c.at_.length++(uv c.tx.length++(c.tx.flatMap ic++(uv c.rg.length++(fD 0 c.rg++(uv c.nd.length++(c.nd.flatMap uh++(uv c.hd.length++(c.hd.zip c.rl).flatMap pO)))))))))
end
theorem xH {α:Type} (f f':α->List Nat) (Q:α->Prop):∀ (L:List α) (r s:List Nat),(∀ i∈L,∀ r s,f i++r=f' i++s->Q i/\r=s)->L.flatMap f++r=L.flatMap f'++s->(∀ i∈L,Q i)/\r=s
 |[],r,s,_,h=>⟨by simp,h⟩
 |x::L,r,s,hf,h=>by
  rw [flatMap_cons,flatMap_cons,append_assoc,append_assoc] at h
  obtain ⟨h1,h2⟩:=hf x (by simp) _ _ h
  obtain ⟨h3,h4⟩:=xH f f' Q L r s (λ i hi=>hf i (by simp [hi])) h2
  exact ⟨λ i hi=>by rcases mem_cons.1 hi with rfl|hi;exact h1;exact h3 i hi,h4⟩
theorem oz {p:List Nat}:(aE p).length=p.length+4:=aY p
theorem pP {p q:List Nat} (h:aE p=aE q):p=q:=by
 have:=congrArg List.length h
 rw [oz,oz] at this
 unfold aE at h
 exact (append_inj h (by omega)).1
theorem K4 {ns ms:List Nat} {k:Nat} {r s:List Nat} (h1:ns.length<=4096) (h2:ms.length<=4096) (h:xG ns k++r=xG ms k++s):(∀ n,n<k->dy ns n=dy ms n)/\r=s:=by
 obtain ⟨h3,h4⟩:=xH (λ n=>mq (aE (oy (dy ns n)))) (λ n=>mq (aE (oy (dy ms n)))) (λ n=>dy ns n=dy ms n) (List.range k) r s (λ n _ r s h=>by
  have a1:=jh (ia n h1);have a2:=jh (ia n h2)
  obtain ⟨e1,e2⟩:=BH (by rw [oz];omega) (by rw [oz];omega) h
  exact ⟨K0 (ia n h1) (ia n h2) (pP e1),e2⟩) h
 exact ⟨λ n hn=>h3 n (mem_range.2 hn),h4⟩
def xI (us:List ByteArray):Prop:=us.length<=1024/\∀ v∈us,v.size<=120
section
variable {X:List ByteArray->List Nat} {T:List Nat->List Nat}
structure XT (X:List ByteArray->List Nat) (T:List Nat->List Nat):Prop where
 xl:∀ us,xI us->(X us).length<2^64
 tl:∀ us,xI us->(T (cZ us)).length<2^64
 xi:∀ us vs,xI us->xI vs->X us=X vs->aw us=aw vs
theorem K5 (hXT:XT X T) {a b:ByteArray×Bool} {us vs:List ByteArray} {r s:List Nat} (ha:a.1.size<2^64) (hb:b.1.size<2^64) (hu:xI us) (hv:xI vs) (h:kd X T a us++r=kd X T b vs++s):(a=b/\us=vs)/\r=s:=by
 unfold kd at h
 simp only [append_assoc] at h
 obtain ⟨e1,h⟩:=mr ha hb h
 obtain ⟨e2,h⟩:=cC (by split<;>omega) (by split<;>omega) h
 obtain ⟨e3,h⟩:=BH (hXT.xl us hu) (hXT.xl vs hv) h
 obtain ⟨_,h⟩:=BH (hXT.tl us hu) (hXT.tl vs hv) h
 have eW:=hXT.xi us vs hu hv e3
 rw [eW] at h
 have l1:(cZ us).length<=4096:=by unfold cZ;rw [length_map];exact Nat.le_trans hu.1 (by decide)
 have l2:(cZ vs).length<=4096:=by unfold cZ;rw [length_map];exact Nat.le_trans hv.1 (by decide)
 obtain ⟨e4,e5⟩:=K4 l1 l2 h
 have eN:=K2 (k:=(aw vs).length) (λ x hx=>by rw [<-eW];exact rV x hx) rV e4
 refine ⟨⟨?_,K1 eW eN⟩,e5⟩
 obtain ⟨a1,a2⟩:=a;obtain ⟨b1,b2⟩:=b
 simp only at e1 e2
 subst e1
 cases a2<;>cases b2<;>simp at e2⊢
theorem CU {k:Nat}:∀ (l m:List (List ByteArray)),1<=k->(∀ r∈l,r.length=k)->(∀ r∈m,r.length=k)->(∀ i,i<k->l.map (λ t=>t.getD i ByteArray.empty)=m.map (λ t=>t.getD i ByteArray.empty))->l=m
 |[],[],_,_,_,_=>rfl
 |[],_::_,h0,_,_,h=>by have:=h 0 (by omega);cases this
 |_::_,[],h0,_,_,h=>by have:=h 0 (by omega);cases this
 |x::l,y::m,h0,h1,h2,h=>by
  have e:x=y:=by
   have hx:=h1 x (by simp);have hy:=h2 y (by simp)
   apply ext_getElem (by omega)
   intro i q1 q2
   have:=h i (by omega)
   rw [map_cons,map_cons] at this
   have:=(List.cons.inj this).1
   rw [getD_eq_getElem?_getD,getD_eq_getElem?_getD,getElem?_eq_getElem q1,getElem?_eq_getElem q2] at this
   simpa using this
  rw [e,CU l m h0 (λ r hr=>h1 r (by simp [hr])) (λ r hr=>h2 r (by simp [hr])) λ i hi=>by
   have:=h i hi
   rw [map_cons,map_cons] at this
   exact (List.cons.inj this).2]
def MC:Int->List kU->Prop
 |_,[]=>True
 |z,x::r=>x.2.1=z/\MC x.2.2.1 r
def Lm:Int->List kU->Prop
 |_,[]=>True
 |z,x::r=>z<=x.2.1/\Lm x.2.1 r
def NK (x:kU):Prop:=x.1.size<2^64/\x.2.2.2.length<2^64/\(∀ p∈x.2.2.2,Hl p)/\0<=x.2.1/\x.2.1<=x.2.2.1/\x.2.2.1<4611686018427387904
theorem Ln:∀ (l m:List kU) (z:Int) (r s:List Nat),(∀ x∈l,NK x)->(∀ x∈m,NK x)->MC z l->MC z m->l.length=m.length->l.flatMap ic++r=m.flatMap ic++s->l=m/\r=s
 |[],[],_,r,s,_,_,_,_,_,h=>⟨rfl,h⟩
 |[],_::_,_,_,_,_,_,_,_,h,_=>by cases h
 |_::_,[],_,_,_,_,_,_,_,h,_=>by cases h
 |x::l,y::m,z,r,s,h1,h2,h3,h4,hl,h=>by
  rw [flatMap_cons,flatMap_cons,show ic x=dq x.1++(uv (x.2.2.1-x.2.1).toNat++rU x.2.2.2) from rfl,show ic y=dq y.1++(uv (y.2.2.1-y.2.1).toNat++rU y.2.2.2) from rfl] at h
  simp only [append_assoc] at h
  have hx:=h1 x (by simp);have hy:=h2 y (by simp)
  obtain ⟨a1,a2,a3,a4,a5,a6⟩:=hx
  obtain ⟨b1,b2,b3,b4,b5,b6⟩:=hy
  obtain ⟨e1,h⟩:=mr a1 b1 h
  obtain ⟨e2,h⟩:=cC (by omega) (by omega) h
  obtain ⟨e3,hF⟩:=Hm a3 b3 a2 b2 h
  have c1:=h3.1;have c2:=h4.1
  have e4:x.2.2.1=y.2.2.1:=by omega
  have e:x=y:=Prod.ext e1 (Prod.ext (c1.trans c2.symm) (Prod.ext e4 e3))
  subst e
  obtain ⟨q1,q2⟩:=Ln l m x.2.2.1 r s (λ w hw=>h1 w (by simp [hw])) (λ w hw=>h2 w (by simp [hw])) h3.2 h4.2 (by simpa using hl) hF
  exact ⟨by rw [q1],q2⟩
theorem rg_of:∀ (l m:List kU) (z:Int) (r s:List Nat),0<=z->(∀ x∈l,NK x)->(∀ x∈m,NK x)->Lm z l->Lm z m->l.length=m.length->fD z l++r=fD z m++s->l=m/\r=s
 |[],[],_,r,s,_,_,_,_,_,_,h=>⟨rfl,h⟩
 |[],_::_,_,_,_,_,_,_,_,_,h,_=>by cases h
 |_::_,[],_,_,_,_,_,_,_,_,h,_=>by cases h
 |x::l,y::m,z,r,s,hz,h1,h2,h3,h4,hl,h=>by
  rw [fD,fD] at h
  unfold Ll at h
  simp only [append_assoc] at h
  have hx:=h1 x (by simp);have hy:=h2 y (by simp)
  obtain ⟨a1,a2,a3,a4,a5,a6⟩:=hx
  obtain ⟨b1,b2,b3,b4,b5,b6⟩:=hy
  obtain ⟨e1,h⟩:=mr a1 b1 h
  obtain ⟨e2,h⟩:=cC (by omega) (by omega) h
  obtain ⟨e5,h⟩:=cC (by omega) (by omega) h
  obtain ⟨e3,hF⟩:=Hm a3 b3 a2 b2 h
  have c1:=h3.1;have c2:=h4.1
  have e6:x.2.1=y.2.1:=by omega
  have e4:x.2.2.1=y.2.2.1:=by omega
  have e:x=y:=Prod.ext e1 (Prod.ext e6 (Prod.ext e4 e3))
  subst e
  obtain ⟨q1,q2⟩:=rg_of l m x.2.1 r s a4 (λ w hw=>h1 w (by simp [hw])) (λ w hw=>h2 w (by simp [hw])) h3.2 h4.2 (by simpa using hl) hF
  exact ⟨by rw [q1],q2⟩
structure OkV (a:mu):Prop where
 an:1<=a.at_.length/\a.at_.length<=8
 as:∀ x∈a.at_,x.1.size<2^64
 tn:a.tk.length<=1024
 tr:∀ r∈a.tk,r.length=a.at_.length/\∀ v∈r,v.size<=120
 xs:∀ x∈a.tx,NK x
 xc:MC 0 a.tx
 rs:∀ x∈a.rg,NK x
 rc:Lm 0 a.rg
 ns:∀ x∈a.nd,x.nm.size<2^64/\-1<=x.p/\x.p<4611686018427387904/\0<=x.b/\x.b<=x.e/\x.e<4611686018427387904
 hl:a.hd.length=a.rl.length
 hs:∀ x∈a.hd.zip a.rl,-1<=x.1/\x.1<4611686018427387904/\x.2.size<2^64
 ls:a.tx.length<2^64/\a.rg.length<2^64/\a.nd.length<2^64/\a.hd.length<2^64
theorem K6 (hXT:XT X T) {a b:mu} (ha:OkV a) (hb:OkV b) {r s:List Nat} (h:di X T a++r=di X T b++s):a=b/\r=s:=by
 unfold di at h
 simp only [append_assoc] at h
 have h:=append_cancel_left h
 obtain ⟨e1,h⟩:=cC (by have:=ha.an;omega) (by have:=hb.an;omega) h
 rw [<-e1] at h
 unfold ib at h
 have hU:∀ (c:mu),OkV c->∀ i,xI (c.tk.map λ t=>t.getD i ByteArray.empty):=λ c hc i=>⟨by rw [length_map];exact hc.tn,λ v hv=>by
  obtain ⟨t,ht,rfl⟩:=mem_map.1 hv
  rw [getD_eq_getElem?_getD]
  cases he:t[i]? with
  |none=>exact Nat.zero_le _
  |some v=>exact (hc.tr t ht).2 v (mem_of_getElem? he)⟩
 have hS:∀ (c:mu),OkV c->∀ i,(c.at_.getD i (ByteArray.empty,false)).1.size<2^64:=λ c hc i=>by
  rw [getD_eq_getElem?_getD]
  cases he:c.at_[i]? with
  |none=>exact Nat.two_pow_pos 64
  |some v=>exact hc.as v (mem_of_getElem? he)
 obtain ⟨h1,h⟩:=xH _ _ (λ i=>a.at_.getD i (ByteArray.empty,false)=b.at_.getD i (ByteArray.empty,false)/\(a.tk.map λ t=>t.getD i ByteArray.empty)=b.tk.map λ t=>t.getD i ByteArray.empty) (List.range a.at_.length) _ _ (λ i _ r s h=>K5 hXT (hS a ha i) (hS b hb i) (hU a ha i) (hU b hb i) h) h
 have eA:a.at_=b.at_:=ext_getElem e1 λ i q1 q2=>by
  have:=(h1 i (mem_range.2 q1)).1
  rw [getD_eq_getElem?_getD,getD_eq_getElem?_getD,getElem?_eq_getElem q1,getElem?_eq_getElem q2] at this
  simpa using this
 have eT:a.tk=b.tk:=CU a.tk b.tk ha.an.1 (λ r hr=>(ha.tr r hr).1) (λ r hr=>by rw [e1];exact (hb.tr r hr).1) λ i hi=>(h1 i (mem_range.2 hi)).2
 obtain ⟨e2,h⟩:=cC ha.ls.1 hb.ls.1 h
 obtain ⟨eX,h⟩:=Ln _ _ 0 _ _ ha.xs hb.xs ha.xc hb.xc e2 h
 obtain ⟨e3,h⟩:=cC ha.ls.2.1 hb.ls.2.1 h
 obtain ⟨eR,h⟩:=rg_of _ _ 0 _ _ (Int.le_refl _) ha.rs hb.rs ha.rc hb.rc e3 h
 obtain ⟨e4,h⟩:=cC ha.ls.2.2.1 hb.ls.2.2.1 h
 obtain ⟨eN,h⟩:=xF uh id (λ x:Nd=>x.nm.size<2^64/\-1<=x.p/\x.p<4611686018427387904/\0<=x.b/\x.b<=x.e/\x.e<4611686018427387904) (λ x y r s hx hy h=>by
  unfold uh at h
  simp only [append_assoc] at h
  obtain ⟨a1,a2,a3,a4,a5,a6⟩:=hx
  obtain ⟨b1,b2,b3,b4,b5,b6⟩:=hy
  obtain ⟨e1,h⟩:=mr a1 b1 h
  obtain ⟨e2,h⟩:=cC (by omega) (by omega) h
  obtain ⟨e3,h⟩:=cC (by omega) (by omega) h
  obtain ⟨e4,h⟩:=cC (by omega) (by omega) h
  refine ⟨?_,h⟩
  clear h
  show x=y
  obtain ⟨x1,x2,x3,x4⟩:=x;obtain ⟨y1,y2,y3,y4⟩:=y
  simp only at a2 a3 a4 a5 a6 b2 b3 b4 b5 b6 e1 e2 e3 e4
  rw [Nd.mk.injEq]
  exact ⟨e1,by omega,by omega,by omega⟩) _ _ _ _ ha.ns hb.ns e4 h
 rw [map_id,map_id] at eN
 obtain ⟨e5,h⟩:=cC ha.ls.2.2.2 hb.ls.2.2.2 h
 obtain ⟨eH,h⟩:=xF pO id (λ x:Int×ByteArray=> -1<=x.1/\x.1<4611686018427387904/\x.2.size<2^64) (λ x y r s hx hy h=>by
  unfold pO at h
  simp only [append_assoc] at h
  obtain ⟨e1,h⟩:=cC (by omega) (by omega) h
  obtain ⟨e2,h⟩:=mr hx.2.2 hy.2.2 h
  exact ⟨Prod.ext (by simp only [id];omega) e2,h⟩) _ _ _ _ ha.hs hb.hs (by rw [length_zip,length_zip,<-ha.hl,<-hb.hl,e5]) h
 rw [map_id,map_id] at eH
 have eh:a.hd=b.hd:=by
  have:=congrArg (List.map Prod.fst) eH
  rwa [map_fst_zip (by rw [ha.hl];exact Nat.le_refl _),map_fst_zip (by rw [hb.hl];exact Nat.le_refl _)] at this
 have el:a.rl=b.rl:=by
  have:=congrArg (List.map Prod.snd) eH
  rwa [map_snd_zip (by rw [ha.hl];exact Nat.le_refl _),map_snd_zip (by rw [hb.hl];exact Nat.le_refl _)] at this
 refine ⟨?_,h⟩
 cases a;cases b
 simp only [mu.mk.injEq]
 exact ⟨eA,eT,eX,eR,eN,eh,el⟩
end
theorem bJ {s:ByteArray} (h:bA s=true):s.size<=32:=by
 unfold bA at h
 exact of_decide_eq_true (Bool.and_eq_true _ _▸h).1
theorem ie {s:ByteArray} (h:j5 s=true):s.size<=120:=by
 unfold j5 at h
 exact of_decide_eq_true (Bool.and_eq_true _ _▸h).1
theorem okPs.sz {ps:List Pr} (h:okPs ps):∀ p∈ps,Hl p:=λ p hp=>by
 have h1:=bJ (h.2.1 p hp).1
 have h2:=ie (h.2.1 p hp).2
 exact ⟨by omega,by omega⟩
theorem K7 {x y:Iv} (h:ea x y<=0):x.b<=y.b:=by
 rcases (by omega:y.b<x.b\/x.b<=y.b) with q|q
 ·unfold ea dP at h
  rw [if_neg (show ¬ x.b<y.b by omega),if_pos q,if_pos (by omega)] at h
  omega
 ·exact q
theorem Lo:∀ (l:List Iv) (z:Int),(∀ x,l[0]? =some x->x.b=z)->(∀ (i:Nat) x y,l[i]? =some x->l[i+1]? =some y->y.b=x.e)->MC z (l.map Iv.v)
 |[],_,_,_=>trivial
 |x::l,z,h1,h2=>⟨h1 x rfl,Lo l x.e (λ y hy=>h2 0 x y rfl (by simpa using hy)) λ i a b ha hb=>h2 (i+1) a b (by simpa using ha) (by simpa using hb)⟩
theorem Lp:∀ (l:List Iv) (z:Int),(∀ x,l[0]? =some x->z<=x.b)->(∀ (i:Nat) x y,l[i]? =some x->l[i+1]? =some y->x.b<=y.b)->Lm z (l.map Iv.v)
 |[],_,_,_=>trivial
 |x::l,z,h1,h2=>⟨h1 x rfl,Lp l x.b (λ y hy=>h2 0 x y rfl (by simpa using hy)) λ i a b ha hb=>h2 (i+1) a b (by simpa using ha) (by simpa using hb)⟩
theorem OkC.Pb {k:Nat} {c:Co} (h:OkC k c) (hk:k<=80):OkV c.v:=by
 have hn:=h.ntk
 have bd:∀ {b e:Int},inT c.tx b e->0<=b/\b<=e/\e<4611686018427387904:=λ q=>by
  have:=q.bd h.tx;omega
 have hdl:c.hd.length=c.rl.length/\c.hd.length<=4096:=by
  rcases h.hd with ⟨a,b⟩|a
  ·rw [a,b];exact ⟨rfl,Nat.zero_le _⟩
  ·have:=a.len;omega
 refine ⟨h.at_.2,λ x hx=> ?_,?_,λ r hr=> ?_,λ x hx=> ?_,Lo _ _ h.tx.first h.tx.next,λ x hx=> ?_,Lp _ _ (λ x hx=> ?_) (λ i x y hx hy=>K7 (h.rg.asc i x y hx hy)),λ x hx=> ?_,hdl.1,λ x hx=> ?_,?_⟩
 ·obtain ⟨i,hi⟩:=getElem?_of_mem hx
  have:=bJ (h.at_.1 i x hi).1;omega
 ·show (c.tk.map (·.ns)).length<=1024
  rw [length_map];omega
 ·obtain ⟨t,ht,rfl⟩:=mem_map.1 hr
  have q:=h.tk t ht
  refine ⟨q.1,λ v hv=> ?_⟩
  obtain ⟨i,hi⟩:=getElem?_of_mem hv
  have hl:=(List.getElem?_eq_some_iff.1 hi).1
  exact ie (q.2 i v _ hi (getElem?_eq_getElem (by omega))).val
 ·obtain ⟨t,ht,rfl⟩:=mem_map.1 hx
  obtain ⟨q1,q2,q3,q4,q5⟩:=h.tx.nm t ht
  have:=bJ q1
  exact ⟨by show t.nm.size<_;omega,by show t.ps.length<_;have:=q2.1;omega,q2.sz,q3,by show t.b<=t.e;omega,by show t.e<_;omega⟩
 ·obtain ⟨t,ht,rfl⟩:=mem_map.1 hx
  obtain ⟨q1,q2,q3⟩:=h.rg.el t ht
  have:=bJ q1
  have q4:=bd q2
  exact ⟨by show t.nm.size<_;omega,by show t.ps.length<_;have:=q3.1;omega,q3.sz,q4.1,q4.2.1,q4.2.2⟩
 ·exact (bd (h.rg.el x (mem_of_getElem? hx)).2.1).1
 ·have q:=h.nd.el x hx
  have:=bJ q.1
  have q4:=bd q.2
  obtain ⟨i,hi⟩:=getElem?_of_mem hx
  have hil:i<c.nd.length:=(List.getElem?_eq_some_iff.1 hi).1
  have:=h.nnd
  have q5:=h.nd.par i x hi
  exact ⟨by omega,by omega,by omega,q4⟩
 ·obtain ⟨i,hi⟩:=getElem?_of_mem hx
  rw [show c.v.hd=c.hd from rfl,show c.v.rl=c.rl from rfl,getElem?_zip_eq_some] at hi
  rcases h.hd with ⟨a,b⟩|a
  ·rw [a] at hi;simp at hi
  ·have q1:=a.el i x.1 hi.1
   have q2:=a.nm x.2 (mem_of_getElem? hi.2)
   refine ⟨?_,?_,?_⟩
   ·rcases q1 with e|⟨t,ht,e⟩
    ·omega
    ·have:=h.tx.nm t ht;omega
   ·rcases q1 with e|⟨t,ht,e⟩
    ·omega
    ·have:=h.tx.nm t ht;omega
   ·rcases q2 with e|e
    ·rw [e];exact Nat.two_pow_pos 64
    ·have:=bJ e;omega
 ·have h1:=h.ntx;have h2:=h.nrg;have h3:=h.nnd
  refine ⟨?_,?_,?_,?_⟩
  ·show (c.tx.map Iv.v).length<_;rw [length_map];omega
  ·show (c.rg.map Iv.v).length<_;rw [length_map];omega
  ·show c.nd.length<_;omega
  ·show c.hd.length<_;omega
end Go.Kw
