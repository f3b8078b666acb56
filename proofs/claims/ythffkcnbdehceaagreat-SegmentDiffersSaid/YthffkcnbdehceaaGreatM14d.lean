/-
 M14d:canonical codes are read back. Plain facts,no program in sight.
-/
import Derived.Test.YthffkcnbdehceaaGreatM06
import Derived.Test.YthffkcnbdehceaaGreatKp
import Derived.Lib.ItoaNum
import Derived.Test.YthffkcnbdehceaaGreatKm
import Derived.Test.YthffkcnbdehceaaGreatM13
set_option linter.unusedVariables false
set_option linter.unusedSimpArgs false
set_option linter.unusedSectionVars false
namespace Go.Kw
def eB (l ord:List Nat):Nat:=(ord.map λ i=>2^(15-ai l i)).sum
theorem cS (l a b:List Nat):eB l (a++b)=eB l a+eB l b:=by simp [eB]
theorem n2 (l:List Nat) (i:Nat):eB l [i]=2^(15-ai l i):=by simp [eB]
theorem rh {l ord:List Nat} {d:Nat} (h:∀ x∈ord,ai l x=d):eB l ord=ord.length*2^(15-d):=by
 unfold eB
 induction ord with
 |nil=>simp
 |cons x r ih=>rw [List.map_cons,List.sum_cons,ih λ y hy=>h y (by simp [hy]),h x (by simp),List.length_cons,Nat.add_mul,Nat.one_mul,Nat.add_comm]
theorem ri (LS:List Nat):∀ (s:List Nat) (i:Nat),LS.drop i=s->eB LS (bh i s)=ja s
 |[],i,_=>rfl
 |v::s,i,hd=>by
  have hi:LS.getD i 0=v:=by
   have:(LS.drop i)[0]? =some v:=by rw [hd];rfl
   rw [List.getElem?_drop] at this
   rw [List.getD_eq_getElem?_getD];simpa using congrArg (λ o=>o.getD 0) this
  have ih:=ri LS s (i+1) (by rw [<-List.drop_drop,hd];rfl)
  rw [bh,ja]
  split
  ·rename_i hv
   have e:eB LS (i::bh (i+1) s)=eB LS [i]+eB LS (bh (i+1) s):=cS LS [i] _
   rw [e,n2,ih,kr,if_pos hv,ai,hi]
  ·rename_i hv
   rw [ih,kr,if_neg hv,Nat.zero_add]
theorem Cv (l:List Nat):eB l (aT l)=ja l:=by
 rw [<-ri l l 0 rfl]
 exact ((bH (key:=ai l) (bh 0 l)).perm.symm.map _).sum_nat
theorem nY:∀ (l:List Nat) (i:Nat),(bh i l).Pairwise (· < ·)
 |[],i=>by simp [bh]
 |n::r,i=>by
  rw [bh]
  split
  ·refine List.pairwise_cons.2 ⟨λ y hy=> ?_,nY r (i+1)⟩
   have:=iS r (i+1) y hy;omega
  ·exact nY r (i+1)
theorem xB (l:List Nat):(aT l).Nodup:=(bH (bh 0 l)).perm.nodup ((nY l 0).imp λ h=>by omega)
theorem kL (l:List Nat) (x:Nat) (h:0<ai l x):x∈aT l:=by
 refine (bH _).mem.1 ?_
 have:∀ (l:List Nat) (i x:Nat),0<l.getD x 0->i+x∈bh i l:=by
  intro l
  induction l with
  |nil=>intro i x h;simp at h
  |cons n r ih=>
   intro i x h
   cases x with
   |zero=>simp at h;rw [bh,if_pos h];simp
   |succ x=>
    have:=ih (i+1) x (by simpa using h)
    rw [bh];split
    ·exact List.mem_cons_of_mem _ (by rw [show i+(x+1)=i+1+x by omega];exact this)
    ·rw [show i+(x+1)=i+1+x by omega];exact this
 have:=this l 0 x h
 rwa [Nat.zero_add] at this
theorem ko {α:Type} {P:List α->Prop} (h0:P []) (h1:∀ l x,P l->P (l++[x])) (l:List α):P l:=by
 rw [<-List.reverse_reverse l]
 induction l.reverse with
 |nil=>exact h0
 |cons x r ih=>rw [List.reverse_cons];exact h1 _ _ ih
theorem tG {L M:Nat} (h:L<=M) (hM:M<=15):2^(M-L)*2^(15-M)=2^(15-L):=by rw [<-Nat.pow_add];congr 1;omega
theorem Cw (l:List Nat) (hb:∀ i,ai l i<=15):∀ (ord:List Nat) (i:Nat),Srt (ai l) (ord++[i])->eB l (ord++[i])<=2^15->
  (er l (ord++[i])).1=ord.length+1/\(er l (ord++[i])).2.2.1=ai l i/\(er l (ord++[i])).2.1*2^(15-ai l i)=eB l ord/\(er l (ord++[i])).2.2.2=(er l ord).2.2.2.set i (er l (ord++[i])).2.1:=by
 refine ko ?_ ?_
 ·intro i _ _;simp [er,iT,eB]
 ·intro ord j ih i hs hk
  have hs1:Srt (ai l) (ord++[j]):=hs.left
  have hij:ai l j<=ai l i:=(Srt.append.1 hs).2.2 j (by simp) i (by simp)
  have hk1:eB l (ord++[j])<=2^15:=by rw [cS] at hk;omega
  obtain ⟨h1,h2,h3,_⟩:=ih j hs1 hk1
  have hi15:=hb i
  have hp:0<2^(15-ai l j):=Nat.two_pow_pos _
  have hbound:((er l (ord++[j])).2.1+1)*2^(15-ai l j)<=2^15:=by
   rw [Nat.add_mul,h3,Nat.one_mul,<-n2,<-cS];exact hk1
  have hc:(er l (ord++[j])).2.1+1<=2^15:=Nat.le_trans (Nat.le_mul_of_pos_right _ hp) hbound
  have e1:((er l (ord++[j])).2.1+1)%2^64=(er l (ord++[j])).2.1+1:=Nat.mod_eq_of_lt (by omega)
  have hq:((er l (ord++[j])).2.1+1)*2^(ai l i-ai l j)*2^(15-ai l i)=((er l (ord++[j])).2.1+1)*2^(15-ai l j):=by
   rw [Nat.mul_assoc,tG hij hi15]
  have hc2:((er l (ord++[j])).2.1+1)*2^(ai l i-ai l j)<=2^15:=Nat.le_trans (Nat.le_mul_of_pos_right _ (Nat.two_pow_pos (15-ai l i))) (by rw [hq];exact hbound)
  have e2:((er l (ord++[j])).2.1+1)*2^(ai l i-ai l j)%2^64=((er l (ord++[j])).2.1+1)*2^(ai l i-ai l j):=Nat.mod_eq_of_lt (by omega)
  have hst:(er l (ord++[j]++[i])).2.1=((er l (ord++[j])).2.1+1)*2^(ai l i-ai l j):=by
   rw [eM];simp only [iT,h1,h2];rw [if_pos (by omega),e1,e2]
  refine ⟨by rw [eM];simp [iT,h1],by rw [eM];rfl,?_,by rw [eM];rfl⟩
  rw [hst,hq,Nat.add_mul,h3,Nat.one_mul,cS,n2]
structure GoodLens (l:List Nat):Prop where
 le:∀ i,ai l i<=15
 kraft:ja l<=2^15
theorem Cx {l:List Nat} (h:∀ x∈l,x<=15) (i:Nat):ai l i<=15:=by
 rw [ai,List.getD_eq_getElem?_getD]
 cases hg:l[i]? with
 |none=>simp
 |some v=>simpa using h v (List.mem_of_getElem? hg)
theorem GoodLens.rN {l:List Nat} (h:eb l=true):GoodLens l:=by
 simp only [eb,Bool.and_eq_true,List.all_eq_true,decide_eq_true_eq] at h
 exact ⟨Cx h.1,h.2⟩
theorem GoodLens.tP {c l:List Nat} (h:LensOk c l):GoodLens l:=⟨h.le,h.kraft⟩
theorem il {c l:List Nat} (h:LensOk c l):eb l=true:=by
 simp only [eb,Bool.and_eq_true,List.all_eq_true,decide_eq_true_eq]
 refine ⟨λ x hx=> ?_,h.kraft⟩
 obtain ⟨i,hi⟩:=List.mem_iff_getElem?.1 hx
 have:=h.le i;rwa [getD_some hi] at this
theorem xC (l:List Nat):∀ (more ord:List Nat) (x:Nat),x∉more->(er l (ord++more)).2.2.2[x]? =(er l ord).2.2.2[x]?
 |[],ord,x,_=>by simp
 |i::r,ord,x,h=>by
  have:=xC l r (ord++[i]) x (λ h'=>h (by simp [h']))
  rw [List.append_assoc] at this
  rw [show ord++i::r=ord++([i]++r) by simp,this,eM]
  exact List.getElem?_set_ne λ e=>h (by simp [e])
theorem HN {l:List Nat} (h:GoodLens l) {k x:Nat} (hx:(aT l)[k]? =some x):∃ code,(cO l)[x]? =some code/\code*2^(15-ai l x)=eB l ((aT l).take k)/\code<2^ai l x:=by
 have hcat:aT l=(aT l).take k++[x]++(aT l).drop (k+1):=by
  rw [<-ar hx,List.take_append_drop]
 have hs:Srt (ai l) ((aT l).take k++[x]):=by rw [<-ar hx];exact Srt.take (cN _) _
 have htot:eB l (aT l)<=2^15:=by rw [Cv];exact h.kraft
 have hk:eB l ((aT l).take k++[x])<=2^15:=by rw [hcat,cS] at htot;omega
 obtain ⟨_,_,h3,h4⟩:=Cw l h.le _ x hs hk
 have hnd:=xB l
 have hxm:=nU l x (List.mem_of_getElem? hx)
 refine ⟨(er l ((aT l).take k++[x])).2.1,?_,h3,?_⟩
 ·have e:cO l=(er l ((aT l).take k++[x]++(aT l).drop (k+1))).2.2.2:=by unfold cO;rw [<-hcat]
  rw [e,xC l _ _ x,h4]
  ·rw [List.getElem?_set_self (by rw [oH];exact hxm.1)]
  ·intro hm
   rw [hcat] at hnd
   exact (List.nodup_append.1 hnd).2.2 x (by simp) x hm rfl
 ·rw [cS,n2,<-h3] at hk
  have hL:=h.le x
  have e:2^15=2^ai l x*2^(15-ai l x):=by rw [<-Nat.pow_add];congr 1;omega
  rw [e,<-Nat.succ_mul] at hk
  exact Nat.le_of_mul_le_mul_right hk (Nat.two_pow_pos _)
theorem Srt.three {α:Type} {key:α->Nat} (n:Nat):∀ {l:List α},Srt key l->l=l.filter (λ x=>decide (key x<n))++l.filter (λ x=>key x==n)++l.filter (λ x=>decide (n<key x))
 |[],_=>rfl
 |x::r,h=>by
  have hr:Srt key r:=(List.pairwise_cons.1 h).2
  have hx:=(List.pairwise_cons.1 h).1
  have ih:=Srt.three n hr
  rcases Nat.lt_trichotomy (key x) n with hk|hk|hk
  ·have a:¬ n<key x:=by omega
   have b:¬ key x=n:=by omega
   simp only [List.filter_cons,hk,a,decide_true,decide_false,if_true,beq_iff_eq,b,if_false,List.cons_append,Bool.false_eq_true]
   exact congrArg (x:: ·) ih
  ·have e:r.filter (λ x=>decide (key x<n))=[]:=List.filter_eq_nil_iff.2 λ y hy=>by have:=hx y hy;simp;omega
   have a:¬ key x<n:=by omega
   have b:¬ n<key x:=by omega
   rw [e,List.nil_append] at ih
   simp only [List.filter_cons,hk,Nat.lt_irrefl,decide_false,beq_self_eq_true,if_true,Bool.false_eq_true,if_false,e,List.nil_append,List.cons_append]
   exact congrArg (x:: ·) ih
  ·have e:r.filter (λ x=>decide (key x<n))=[]:=List.filter_eq_nil_iff.2 λ y hy=>by have:=hx y hy;simp;omega
   have e2:r.filter (λ x=>key x==n)=[]:=List.filter_eq_nil_iff.2 λ y hy=>by have:=hx y hy;simp;omega
   have a:¬ key x<n:=by omega
   have b:¬ key x=n:=by omega
   rw [e,e2,List.nil_append,List.nil_append] at ih
   simp only [List.filter_cons,a,hk,decide_true,decide_false,beq_iff_eq,b,if_false,if_true,e,e2,List.nil_append,Bool.false_eq_true]
   exact congrArg (x:: ·) ih
def n3 (l:List Nat) (n:Nat):List Nat:=(aT l).filter λ x=>ai l x==n
def low (l:List Nat) (n:Nat):List Nat:=(aT l).filter λ x=>decide (ai l x<n)
def bX (l:List Nat) (x:Nat):Nat:=(cO l).getD x 0
def sq (l:List Nat) (n:Nat):Nat:=
 match n3 l n with
 |[]=>0
 |x::_=>bX l x
theorem jE (l:List Nat) (n:Nat):aT l=low l n++n3 l n++(aT l).filter λ x=>decide (n<ai l x):=Srt.three n (cN _)
theorem pG {l:List Nat} {n x:Nat} (h:x∈n3 l n):ai l x=n:=by simpa using (List.mem_filter.1 h).2
theorem im {l:List Nat} (h:GoodLens l) {n m x:Nat} (hx:(n3 l n)[m]? =some x):(cO l)[x]? =some (bX l x)/\bX l x*2^(15-n)=eB l (low l n)+m*2^(15-n)/\bX l x<2^n:=by
 have hm:=(List.getElem?_eq_some_iff.1 hx).1
 have hn:=pG (List.mem_of_getElem? hx)
 have hk:(aT l)[(low l n).length+m]? =some x:=by
  rw [jE l n,List.append_assoc,List.getElem?_append_right (by omega),Nat.add_sub_cancel_left,List.getElem?_append_left hm];exact hx
 obtain ⟨code,h1,h2,h3⟩:=HN h hk
 have hc:bX l x=code:=by rw [bX,List.getD_eq_getElem?_getD,h1];rfl
 have ht:(aT l).take ((low l n).length+m)=low l n++(n3 l n).take m:=by
  conv=>lhs;rw [jE l n]
  rw [List.append_assoc,List.take_length_add_append,List.take_append_of_le_length (by omega)]
 rw [hc]
 rw [hn] at h2 h3
 refine ⟨h1,?_,h3⟩
 rw [h2,ht,cS,rh (d:=n) λ y hy=>pG (List.mem_of_mem_take hy),List.length_take,Nat.min_eq_left (by omega)]
theorem rj {l:List Nat} (h:GoodLens l) {n m x:Nat} (hx:(n3 l n)[m]? =some x):sq l n+m=bX l x:=by
 have hm:=(List.getElem?_eq_some_iff.1 hx).1
 obtain ⟨_,h1,_⟩:=im h hx
 have h0:(n3 l n)[0]? =some (n3 l n)[0]:=List.getElem?_eq_getElem (by omega)
 obtain ⟨_,g1,_⟩:=im h h0
 have hf:sq l n=bX l (n3 l n)[0]:=by
  unfold sq
  obtain ⟨y,r,hyr⟩:=List.exists_cons_of_length_pos (by omega:0<(n3 l n).length)
  simp only [hyr,List.getElem_cons_zero]
 rw [hf]
 have e:(bX l (n3 l n)[0]+m)*2^(15-n)=bX l x*2^(15-n):=by rw [Nat.add_mul,g1,h1,Nat.zero_mul,Nat.add_zero]
 exact Nat.eq_of_mul_eq_mul_right (Nat.two_pow_pos _) e
theorem zv {l:List Nat} {x:Nat} (hx:0<ai l x):∃ m:Nat,(n3 l (ai l x))[m]? =some x:=by
 have:x∈n3 l (ai l x):=List.mem_filter.2 ⟨kL l x hx,by simp⟩
 exact List.mem_iff_getElem?.1 this
theorem Cy {l:List Nat} (h:GoodLens l) {x n m y:Nat} (hx:0<ai l x) (hn:n<ai l x) (hy:(n3 l n)[m]? =some y):bX l y≠bX l x/2^(ai l x-n):=λ e=>by
 obtain ⟨k,hk⟩:=zv hx
 obtain ⟨_,h1,_⟩:=im h hk
 obtain ⟨_,g1,_⟩:=im h hy
 have hL:=h.le x
 have hm:=(List.getElem?_eq_some_iff.1 hy).1
 --the sum in front of x has all of y's length
 have hlow:eB l (low l n)+(n3 l n).length*2^(15-n)<=eB l (low l (ai l x)):=by
  have hsub:(low l n++n3 l n).Sublist (low l (ai l x)):=by
   have e1:low l (ai l x)=(low l n++n3 l n++(aT l).filter λ z=>decide (n<ai l z)).filter λ z=>decide (ai l z<ai l x):=by rw [<-jE];rfl
   rw [e1,List.filter_append,List.filter_append]
   have e2:(low l n).filter (λ z=>decide (ai l z<ai l x))=low l n:=List.filter_eq_self.2 λ z hz=>by
    have:=(List.mem_filter.1 hz).2;simp at this⊢;omega
   have e3:(n3 l n).filter (λ z=>decide (ai l z<ai l x))=n3 l n:=List.filter_eq_self.2 λ z hz=>by
    have:=pG hz;simp;omega
   rw [e2,e3]
   exact List.sublist_append_left _ _
  have hs:eB l (low l n++n3 l n)<=eB l (low l (ai l x)):=by
   have:∀ {a b:List Nat},a.Sublist b->eB l a<=eB l b:=by
    intro a b hab
    induction hab with
    |slnil=>exact Nat.le_refl _
    |cons z _ ih=>simp only [eB,List.map_cons,List.sum_cons] at ih⊢;exact Nat.le_trans ih (Nat.le_add_left _ _)
    |cons_cons z _ ih=>simp only [eB,List.map_cons,List.sum_cons] at ih⊢;exact Nat.add_le_add_left ih _
   exact this hsub
  rw [cS,rh (d:=n) λ z hz=>pG hz] at hs
  exact hs
 have hq:2^(ai l x-n)*2^(15-ai l x)=2^(15-n):=tG (by omega) hL
 have hlt:bX l x<(bX l y+1)*2^(ai l x-n):=by
  rw [e]
  have:=Nat.lt_div_mul_add (a:=bX l x) (b:=2^(ai l x-n)) (Nat.two_pow_pos _)
  rw [Nat.add_mul,Nat.one_mul];exact this
 have h2:bX l x*2^(15-ai l x)<(bX l y+1)*2^(15-n):=by
  rw [<-hq,<-Nat.mul_assoc]
  exact Nat.mul_lt_mul_of_pos_right hlt (Nat.two_pow_pos _)
 rw [h1,Nat.add_mul,Nat.one_mul,g1] at h2
 have h3:(m+1)*2^(15-n)<=(n3 l n).length*2^(15-n):=Nat.mul_le_mul_right _ hm
 rw [Nat.add_mul,Nat.one_mul] at h3
 omega
def ch (l syms:List Nat):List Bool:=syms.flatMap λ s=>aU (bX l s) (ai l s)
theorem Cz (l a:List Nat) (x:Nat):ch l (a++[x])=ch l a++aU (bX l x) (ai l x):=by simp [ch]
theorem ff {l:List Nat} (h:GoodLens l):∀ syms:List Nat,(ch l syms).length<=15*syms.length
 |[]=>by simp [ch]
 |s::r=>by
  have ih:=ff h r
  have e:ch l (s::r)=aU (bX l s) (ai l s)++ch l r:=by simp [ch]
  have:=h.le s
  rw [e,List.length_append,aS,List.length_cons];omega
theorem pH {l:List Nat} (h:GoodLens l) {x:Nat} (hx:0<ai l x):(cO l)[x]? =some (bX l x)/\bX l x<2^ai l x:=by
 obtain ⟨m,hm⟩:=zv hx
 obtain ⟨h1,_,h3⟩:=im h hm
 exact ⟨h1,h3⟩
theorem oN {l:List Nat} {x:Nat} (hx:x<l.length):l[x]? =some (ai l x):=by
 simp [ai,List.getD_eq_getElem?_getD,hx]
theorem iq {l:List Nat} (h:eb l=true):∀ x∈l,x<=15:=by
 simp only [eb,Bool.and_eq_true,List.all_eq_true,decide_eq_true_eq] at h;exact h.1
end Go.Kw
namespace Go.Kw
def kM (v:Nat):Nat:=(max (Lib.bitLen v) 1+6)/7
theorem eC (v:Nat):kM v<=10:=by have:=bitLen_le64 v;unfold kM;omega
def n4 (width:Nat) (s:Nat×Nat×Nat×Nat) (x:Nat):Nat×Nat×Nat×Nat:=
 if 0<x/2^width then (s.1+1,s.2.1+(kM (s.1+1-s.2.2.2)+kM (x/2^width)),s.2.2.1+1,s.1+1) else (s.1+1,s.2.1,s.2.2.1,s.2.2.2)
def lD (width:Nat) (l:List Nat):Nat×Nat×Nat×Nat:=l.foldl (n4 width) (0,0,0,0)
def j3 (width:Nat) (l:List Nat):Nat:=
 (lD width l).2.1+kM l.length+kM width+kM (lD width l).2.2.1+(l.length*width+7)/8
theorem oO (width:Nat) (l:List Nat) (x:Nat):lD width (l++[x])=n4 width (lD width l) x:=by simp [lD]
def eD (width:Nat) (s:Nat×List Bool×List Nat×Nat×Nat) (x:Nat):Nat×List Bool×List Nat×Nat×Nat:=
 if 0<x/2^width then (s.1+1,s.2.1++aU (x%2^width) width,s.2.2.1++uv (s.1+1-s.2.2.2.2)++uv (x/2^width),s.2.2.2.1+1,s.1+1)
 else (s.1+1,s.2.1++aU (x%2^width) width,s.2.2.1,s.2.2.2.1,s.2.2.2.2)
def eF (width:Nat) (l:List Nat):Nat×List Bool×List Nat×Nat×Nat:=l.foldl (eD width) (0,[],[],0,0)
def n5 (width:Nat) (l:List Nat):List Nat:=
 uv l.length++uv width++uv (eF width l).2.2.2.1++aB (eF width l).2.1++(eF width l).2.2.1
theorem iX (width:Nat) (l:List Nat) (x:Nat):eF width (l++[x])=eD width (eF width l) x:=by simp [eF]
def dU (l:List Nat):Nat->Nat
 |0=>0
 |m+1=>if j3 m l<j3 (dU l m) l then m else dU l m
def bI (l:List Nat):List Nat:=n5 (dU l 32) l
theorem ir (l:List Nat):∀ m,dU l m<=m-1
 |0=>Nat.le_refl _
 |m+1=>by unfold dU;split;(omega);(have:=ir l m;omega)
end Go.Kw
namespace Go.Kw
open Go.RowKit
structure Pt where
 sv:SV
 bits:Nat
 bys:List Nat
def cG:Enc Pt:=⟨2,λ p=>[p.sv.val,.int .i64 (p.bits:Int)],λ _=>rfl,λ p u h=>by simp at h;rcases h with rfl|rfl<;>rfl⟩
def cj (ps:List Pt):Chunk:=kA (ps.map λ p=>cL p.sv.val 5 (a7 .u8) p.bys)
section
variable {w0 w:World} {cs:List Chunk}
theorem Sat.xU (h:Sat w0 cs w):Sat w0 (cs++[cj []]) w:=by
 have:Sat w0 (cs++kA []::[]) w:=Sat.gM.2 (by simpa using h)
 exact this
theorem Sat.tR {A:List Chunk} {s:SV} {b:Nat} {l:List Nat} {ps:List Pt} (h:Sat w0 (A++[cL s.val 5 (a7 .u8) l]) w) (i:Nat) (hi:A[i]? =some (cj ps)):Sat w0 (A.set i (cj (ps++[⟨s,b,l⟩]))) w:=by
 have:=h.push i hi
 rw [cj,List.map_append];exact this
theorem Sat.kz (h:Sat w0 cs w) (i:Nat) {ps:List Pt} (hi:cs[i]? =some (cj ps)):∀ p∈ps,RdL w p.sv.val (a7 .u8) p.bys:=λ p hp=>
 Rd.rS ((h.get hi).1 (cL p.sv.val 5 (a7 .u8) p.bys) (List.mem_map_of_mem hp))
end
def ei (l:List Nat) (k:Nat):List Nat:=(l.drop (64*k)).take 64
def dn (n:Nat):Nat:=(n+63)/64
theorem nZ (l:List Nat) (k:Nat):(l.take (min (64*k+64) l.length)).drop (64*k)=ei l k:=by
 rw [ei,List.drop_take]
 have:min (64*k+64) l.length-64*k=min 64 (l.length-64*k):=by omega
 rw [this,<-List.length_drop,<-List.take_eq_take_min]
theorem bY (l:List Nat) (k:Nat):(ei l k).length=min 64 (l.length-64*k):=by simp [ei]
theorem kq {l:List Nat} {k x:Nat} (h:x∈ei l k):x∈l:=List.mem_of_mem_drop (List.mem_of_mem_take h)
def bm (ps:List Pt):List (List Nat×Nat):=ps.map λ p=>(p.bys,p.bits)
def lE (l:List Nat) (k:Nat):List (List Nat×Nat):=(List.range k).map λ i=>(bI (ei l i),0)
theorem EV (l:List Nat) (k:Nat):lE l (k+1)=lE l k++[(bI (ei l k),0)]:=by simp [lE,List.range_succ]
theorem rm (ps:List Pt) (p:Pt):bm (ps++[p])=bm ps++[(p.bys,p.bits)]:=by simp [bm]
theorem dI (ps:List Pt):(bm ps).length=ps.length:=by simp [bm]
def rV (l:List Nat):Nat:=l.foldl (λ m x=>max m (x+1)) 0
theorem EW (l:List Nat) (x:Nat):rV (l++[x])=max (rV l) (x+1):=by simp [rV]
theorem EX {l:List Nat} {B:Nat} (h:∀ x∈l,x<B):rV l<=B:=by
 have:∀ (l:List Nat) (m:Nat),m<=B->(∀ x∈l,x<B)->l.foldl (λ m x=>max m (x+1)) m<=B:=by
  intro l
  induction l with
  |nil=>intro m hm _;exact hm
  |cons x r ih=>intro m hm h;exact ih _ (by have:=h x (by simp);show max m (x+1)<=B;omega) λ y hy=>h y (by simp [hy])
 exact this l 0 (Nat.zero_le _) h
theorem zw:∀ (l:List Nat),∀ x∈l,x<rV l:=by
 have mono:∀ (l:List Nat) (m:Nat),m<=l.foldl (λ m x=>max m (x+1)) m:=by
  intro l
  induction l with
  |nil=>intro m;exact Nat.le_refl _
  |cons x r ih=>intro m;exact Nat.le_trans (Nat.le_max_left _ _) (ih _)
 have:∀ (l:List Nat) (m:Nat),∀ x∈l,x<l.foldl (λ m x=>max m (x+1)) m:=by
  intro l
  induction l with
  |nil=>intro m x h;cases h
  |cons y r ih=>
   intro m x h
   rcases List.mem_cons.1 h with rfl|h
   ·exact Nat.lt_of_lt_of_le (by omega:x<max m (x+1)) (mono r _)
   ·exact ih _ x h
 exact λ l=>this l 0
def dm (c:List Nat) (x:Nat):List Nat:=c.set x (c.getD x 0+1)
def lF (m:Nat) (l:List Nat):List Nat:=l.foldl dm (List.replicate m 0)
theorem CA (m:Nat) (l:List Nat) (x:Nat):lF m (l++[x])=dm (lF m l) x:=by simp [lF]
theorem gE (m:Nat) (l:List Nat):(lF m l).length=m:=by
 have:∀ (l c:List Nat),(l.foldl dm c).length=c.length:=by
  intro l;induction l with
  |nil=>intro c;rfl
  |cons x r ih=>intro c;rw [List.foldl_cons,ih];simp [dm]
 rw [lF,this];simp
theorem HO (m:Nat) (l:List Nat):∀ x∈lF m l,x<=l.length:=by
 have:∀ (l c:List Nat) (B:Nat),(∀ x∈c,x<=B)->∀ x∈l.foldl dm c,x<=B+l.length:=by
  intro l
  induction l with
  |nil=>intro c B h x hx;simpa using h x hx
  |cons y r ih=>
   intro c B h x hx
   have:=ih (dm c y) (B+1) (λ z hz=>by
    rcases List.mem_or_eq_of_mem_set hz with hz|rfl
    ·have:=h z hz;omega
    ·rw [List.getD_eq_getElem?_getD]
     cases hg:c[y]? with
     |none=>simp
     |some v=>have:=h v (List.mem_of_getElem? hg);simp;exact this) x hx
   simp only [List.length_cons];omega
 have h:=this l (List.replicate m 0) 0 (λ x hx=>by have:=List.eq_of_mem_replicate hx;omega)
 simpa [lF] using h
theorem EY {m:Nat} {l:List Nat} (hm:∀ x∈l,x<m):∀ x∈l,0<(lF m l).getD x 0:=by
 have mono:∀ (l c:List Nat) (j:Nat),c.getD j 0<=(l.foldl dm c).getD j 0:=by
  intro l
  induction l with
  |nil=>intro c j;exact Nat.le_refl _
  |cons y r ih=>
   intro c j
   refine Nat.le_trans ?_ (ih _ j)
   by_cases h:y=j
   ·subst h
    by_cases hl:y<c.length
    ·rw [dm,ef hl];omega
    ·simp [List.getD_eq_getElem?_getD,List.getElem?_eq_none (Nat.le_of_not_lt hl)]
   ·rw [dm,cY h];exact Nat.le_refl _
 have:∀ (l c:List Nat),(∀ x∈l,x<c.length)->∀ x∈l,0<(l.foldl dm c).getD x 0:=by
  intro l
  induction l with
  |nil=>intro c _ x h;cases h
  |cons y r ih=>
   intro c hc x h
   have hy:=hc y (by simp)
   by_cases hx:x=y
   ·subst hx
    refine Nat.lt_of_lt_of_le ?_ (mono r _ x)
    rw [dm,ef hy];omega
   ·exact ih (dm c y) (λ z hz=>by simp [dm];exact hc z (by simp [hz])) x ((List.mem_cons.1 h).resolve_left hx)
 exact this l _ (by simpa using hm)
def aY (l:List Nat):List Nat:=cP (lF (rV l) l)
theorem ej (l:List Nat):(aY l).length=rV l:=by rw [aY,mU,gE]
theorem gG (l:List Nat) (h:rV l<=1024):LensOk (lF (rV l) l) (aY l):=EM _ (by have:=dS (lF (rV l) l);rw [gE] at this;omega)
theorem rn {l:List Nat} (h:rV l<=1024):∀ x∈l,x<(aY l).length/\0<ai (aY l) x:=λ x hx=>by
 have h1:=zw l x hx
 have h2:=EY (zw l) x hx
 refine ⟨by rw [ej];exact h1,?_⟩
 have:=(gG l h).zero x (by rw [gE];exact h1)
 rw [ai];omega
def jF (l:List Nat) (k:Nat):List (List Nat×Nat):=(List.range k).map λ i=>(aB (ch (aY l) (ei l i)),(ch (aY l) (ei l i)).length)
theorem EZ (l:List Nat) (k:Nat):jF l (k+1)=jF l k++[(aB (ch (aY l) (ei l k)),(ch (aY l) (ei l k)).length)]:=by simp [jF,List.range_succ]
def rp (kind:Nat) (p:List Nat×Nat):List Nat:=uv (if kind=0 then p.1.length else p.2)++p.1
def ec (kind:Nat) (ps:List (List Nat×Nat)):List Nat:=ps.flatMap (rp kind)
theorem n9 (kind:Nat) (ps:List (List Nat×Nat)) (p:List Nat×Nat):ec kind (ps++[p])=ec kind ps++rp kind p:=by simp [ec]
def rq (n kind:Nat) (lens:List Nat):List Nat:=uv n++uv kind++(if kind=1 then uv lens.length++lens.map (· %2^8) else [])
theorem lG (n kind:Nat) (lens:List Nat):(rq n kind lens).length<=30+lens.length:=by
 have h1:=aK n;have h2:=aK kind;have h3:=aK lens.length
 unfold rq
 split<;>simp<;>omega
def jc (n kind:Nat) (lens:List Nat) (ps:List (List Nat×Nat)):List Nat:=rq n kind lens++ec kind ps
theorem iu {ps:List Pt} {k:Nat} {x:Pt} (h:ps[k]? =some x):(bm ps)[k]? =some (x.bys,x.bits):=by simp [bm,h]
theorem lH (l:List Nat) (h:l.length<=64):(bI l).length<=10000:=by
 have hw:∀ w,w<=31->∀ l:List Nat,(eF w l).2.1.length=l.length*w/\(eF w l).2.2.1.length<=20*l.length:=by
  intro w _
  refine ko ⟨by simp [eF],by simp [eF]⟩ λ l x ih=> ?_
  rw [iX]
  have h1:=aK ((eF w l).1+1-(eF w l).2.2.2.2)
  have h2:=aK (x/2^w)
  unfold eD
  simp only [List.length_append,List.length_cons,List.length_nil]
  split<;>simp only [List.length_append,aS]<;>(refine ⟨by rw [ih.1,Nat.add_mul];omega,by omega⟩)
 have hb:=ir l 32
 obtain ⟨h1,h2⟩:=hw (dU l 32) (by omega) l
 have a1:=aK l.length
 have a2:=aK (dU l 32)
 have a3:=aK (eF (dU l 32) l).2.2.2.1
 have hm:l.length*dU l 32<=64*31:=Nat.mul_le_mul h (by omega)
 unfold bI n5
 simp only [List.length_append,aM]
 omega
theorem tH {ps:List Pt} {q:List (List Nat×Nat)} (h:bm ps=q) {C:List Nat×Nat->Prop} (hq:∀ x∈q,C x):∀ p∈ps,C (p.bys,p.bits):=λ p hp=>hq _ (by rw [<-h];exact List.mem_map_of_mem hp)
theorem J1 {l:List Nat} {ps:List Pt} (h:bm ps=lE l (dn l.length)) (hn:l.length<=4096):ps.length<=100/\∀ p∈ps,p.bys.length<=20000/\p.bits<=1000000:=by
 refine ⟨by rw [<-dI,h];simp [lE,dn];omega,tH (C:=λ q=>q.1.length<=20000/\q.2<=1000000) h λ x hx=> ?_⟩
 obtain ⟨i,_,rfl⟩:=List.mem_map.1 hx
 have:=lH (ei l i) (by rw [bY];omega)
 exact ⟨by show (bI (ei l i)).length<=20000;omega,by show 0<=1000000;omega⟩
theorem J2 {l:List Nat} {ps:List Pt} (h:bm ps=jF l (dn l.length)) (hn:l.length<=4096) (hm:rV l<=1024):ps.length<=100/\∀ p∈ps,p.bys.length<=20000/\p.bits<=1000000:=by
 refine ⟨by rw [<-dI,h];simp [jF,dn];omega,tH (C:=λ q=>q.1.length<=20000/\q.2<=1000000) h λ x hx=> ?_⟩
 obtain ⟨i,_,rfl⟩:=List.mem_map.1 hx
 have h1:=ff (GoodLens.tP (gG l hm)) (ei l i)
 have h2:=bY l i
 exact ⟨by show (aB (ch (aY l) (ei l i))).length<=20000;rw [aM];omega,by show (ch (aY l) (ei l i)).length<=1000000;omega⟩
def na (l:List Nat) (kind:Nat):List Nat:=jc l.length kind (if kind=1 then aY l else []) (if kind=1 then jF l (dn l.length) else lE l (dn l.length))
def bO (l:List Nat):Nat:=if (na l 1).length<(na l 0).length then 1 else 0
def df (l:List Nat):List Nat:=if bO l=1 then aY l else []
def kG (l:List Nat):List (List Nat×Nat):=if bO l=1 then jF l (dn l.length) else lE l (dn l.length)
theorem CC {l:List Nat} (h:(na l 1).length<(na l 0).length):bO l=1/\df l=aY l/\kG l=jF l (dn l.length):=by
 have hk:bO l=1:=by rw [bO,if_pos h]
 exact ⟨hk,by rw [df,if_pos hk],by rw [kG,if_pos hk]⟩
theorem zx {l:List Nat} (h:¬ (na l 1).length<(na l 0).length):bO l=0/\df l=[]/\kG l=lE l (dn l.length):=by
 have hk:bO l=0:=by rw [bO,if_neg h]
 exact ⟨hk,by rw [df,if_neg (by omega)],by rw [kG,if_neg (by omega)]⟩
theorem dV (l:List Nat):bO l<=1:=by unfold bO;split<;>omega
structure OkN (l:List Nat):Prop where
 len:l.length<=4096
 lt:∀ x∈l,x<1024
theorem OkN.mx {l:List Nat} (h:OkN l):rV l<=1024:=EX h.lt
theorem uC {l:List Nat} {ps:List Pt} (h:bm ps=kG l) (hl:OkN l):ps.length<=100/\∀ p∈ps,p.bys.length<=20000/\p.bits<=1000000:=by
 unfold kG at h
 split at h
 ·exact J2 h hl.len hl.mx
 ·exact J1 h hl.len
theorem o0 {l:List Nat} (hl:OkN l):(df l).length<=1024:=by
 unfold df
 split
 ·rw [ej];exact hl.mx
 ·simp
theorem uD (l:List Nat):jc l.length (bO l) (df l) (kG l)=na l (bO l):=rfl
theorem F0 {n kind:Nat} {lens:List Nat} {ps:List Pt} (hll:lens.length<=1024) (h:ps.length<=100) (hb:∀ p∈ps,p.bys.length<=20000/\p.bits<=1000000):(jc n kind lens (bm ps)).length<=3000000:=by
 have h1:=lG n kind lens
 have:∀ ps:List Pt,(∀ p∈ps,p.bys.length<=20000/\p.bits<=1000000)->(ec kind (bm ps)).length<=20010*ps.length:=by
  intro ps
  induction ps with
  |nil=>intro _;simp [ec,bm]
  |cons p r ih=>
   intro hb
   have h1:=ih λ q hq=>hb q (by simp [hq])
   have h2:=hb p (by simp)
   have e:ec kind (bm (p::r))=rp kind (p.bys,p.bits)++ec kind (bm r):=by simp [ec,bm]
   have h3:=aK (if kind=0 then p.bys.length else p.bits)
   rw [e,List.length_append,List.length_cons,rp,List.length_append]
   simp only at h3⊢
   omega
 have h2:=this ps hb
 unfold jc
 rw [List.length_append];omega
def CacheOk (l:List Nat) (last:Nat) (blk:List Nat):Prop:=(last=0/\blk=[])\/∃ q,last=q+1/\q<dn l.length/\blk=ei l q
theorem CacheOk.hit {l blk:List Nat} {k:Nat} (h:CacheOk l (k+1) blk):blk=ei l k:=by
 rcases h with ⟨h,_⟩|⟨q,h1,_,h2⟩
 ·omega
 ·rw [h2,show q=k by omega]
theorem CacheOk.now {l:List Nat} {k:Nat} (h:k<dn l.length):CacheOk l (k+1) (ei l k):= .inr ⟨k,rfl,h,rfl⟩
theorem CacheOk.zero (l:List Nat):CacheOk l 0 []:= .inl ⟨rfl,rfl⟩
theorem xD {l:List Nat} {ps:List Pt} (h:bm ps=kG l) {k:Nat} (hk:k<dn l.length):∃ p,ps[k]? =some p/\(p.bys,p.bits)=if bO l=1 then (aB (ch (aY l) (ei l k)),(ch (aY l) (ei l k)).length) else (bI (ei l k),0):=by
 have hl:ps.length=dn l.length:=by rw [<-dI,h];unfold kG;split<;>simp [lE,jF]
 obtain ⟨p,hp⟩:∃ p,ps[k]? =some p:=⟨_,List.getElem?_eq_getElem (by omega)⟩
 refine ⟨p,hp,?_⟩
 have h1:=iu hp
 rw [h] at h1
 unfold kG at h1
 split at h1
 ·rename_i h0;rw [if_pos h0]
  rw [jF,List.getElem?_map,List.getElem?_range hk] at h1
  exact (Option.some.inj h1).symm
 ·rename_i h0;rw [if_neg h0]
  rw [lE,List.getElem?_map,List.getElem?_range hk] at h1
  exact (Option.some.inj h1).symm
theorem HP (l:List Nat) (i:Nat):(ei l (i/64))[i%64]? =l[i]? :=by
 rw [ei,List.getElem?_take_of_lt (Nat.mod_lt _ (by decide)),List.getElem?_drop]
 congr 1;omega
theorem F5 {n i:Nat} (h:i<n):i/64<dn n:=by unfold dn;omega
end Go.Kw
namespace Go.Kw
def st1 (v:Nat):Nat:=if v%2^1=1 then v/2^1^^^2197175160 else v/2^1
def nb (v:Nat):Nat->Nat
 |0=>v
 |n+1=>st1 (nb v n)
def ru (i:Nat):Nat:=nb i 4
def N7 (v c:Nat):Nat:=v^^^c
def F6 (a:Nat):Nat:=a/2^4^^^ru (a%2^4)
def LL (v c:Nat):Nat:=F6 (F6 (N7 v c))
def zy (l:List Nat):Nat:=l.foldl LL 4294967295
theorem tI (l:List Nat) (c:Nat):zy (l++[c])=LL (zy l) c:=by simp [zy]
def oY (l:List Nat):Nat:=4294967295^^^zy l
def o3 (v:Nat):List Nat:=[v%2^8,v/2^8%2^8,v/2^16%2^8,v/2^24%2^8]
def aN (l:List Nat):List Nat:=l++o3 (oY l)
theorem nc (v:Nat):∀ x∈o3 v,x<256:=λ x hx=>by
 simp only [o3,List.mem_cons,List.not_mem_nil,or_false] at hx
 omega
theorem bJ (l:List Nat):(aN l).length=l.length+4:=by simp [aN,o3]
theorem jG {a b:Nat} (ha:a<4294967296) (hb:b<4294967296):a^^^b<4294967296:=by
 have:=Nat.xor_lt_two_pow (n:=32) (x:=a) (y:=b) (by omega) (by omega);omega
theorem zz {v:Nat} (h:v<4294967296):st1 v<4294967296:=by
 unfold st1
 split
 ·exact jG (by omega) (by omega)
 ·omega
theorem xE {v:Nat} (h:v<4294967296):∀ n,nb v n<4294967296
 |0=>h
 |n+1=>zz (xE h n)
theorem uF {i:Nat} (h:i<16):ru i<4294967296:=xE (by omega) 4
theorem pI {a:Nat} (h:a<4294967296):F6 a<4294967296:=jG (by omega) (uF (by omega))
theorem HQ:∀ (l:List Nat),(∀ x∈l,x<256)->zy l<4294967296:=by
 refine ko (λ _=>by simp [zy]) λ l c ih h=> ?_
 rw [tI]
 have h1:=ih λ x hx=>h x (by simp [hx])
 have h2:=h c (by simp)
 exact pI (pI (jG h1 (by omega)))
theorem pJ {l:List Nat} (h:∀ x∈l,x<256):oY l<4294967296:=jG (by omega) (HQ l h)
def o4:List Nat:=(List.range 16).map ru
def o5 (k:Nat):List Nat:=(List.range k).map ru++List.replicate (16-k) 0
theorem xF {k:Nat} (h:k<=16):(o5 k).length=16:=by simp [o5];omega
theorem F7 {k:Nat} (h:k<16):(o5 k).set k (ru k)=o5 (k+1):=by
 unfold o5
 rw [List.set_append_right _ _ (by simp),show 16-k=(16-(k+1))+1 by omega,List.replicate_succ,List.range_succ]
 simp
theorem F8:o5 16=o4:=by simp [o5,o4]
theorem ry {i:Nat} (h:i<16):o4[i]? =some (ru i):=by simp [o4,h]
theorem jH (width:Nat) (l:List Nat):∀ x∈n5 width l,x<256:=λ x hx=>by
 have he:∀ l:List Nat,∀ x∈(eF width l).2.2.1,x<256:=by
  refine ko (λ x hx=>by simp [eF] at hx) λ l y ih x hx=> ?_
  rw [iX] at hx
  unfold eD at hx
  split at hx
  ·simp only [List.mem_append] at hx
   rcases hx with (hx|hx)|hx
   ·exact ih x hx
   ·exact cF _ x hx
   ·exact cF _ x hx
  ·exact ih x hx
 unfold n5 at hx
 simp only [List.mem_append] at hx
 rcases hx with (((hx|hx)|hx)|hx)|hx
 ·exact cF _ x hx
 ·exact cF _ x hx
 ·exact cF _ x hx
 ·exact gd _ x hx
 ·exact he l x hx
theorem K8 (kind:Nat) (ps:List (List Nat×Nat)) (h:∀ p∈ps,∀ x∈p.1,x<256):∀ x∈ec kind ps,x<256:=λ x hx=>by
 obtain ⟨p,hp,hx⟩:=List.mem_flatMap.1 hx
 rcases List.mem_append.1 hx with hx|hx
 ·exact cF _ x hx
 ·exact h p hp x hx
theorem AO (n kind:Nat) (lens:List Nat) (ps:List (List Nat×Nat)) (h:∀ p∈ps,∀ x∈p.1,x<256):∀ x∈jc n kind lens ps,x<256:=λ x hx=>by
 unfold jc rq at hx
 simp only [List.mem_append] at hx
 rcases hx with ((hx|hx)|hx)|hx
 ·exact cF _ x hx
 ·exact cF _ x hx
 ·split at hx
  ·rcases List.mem_append.1 hx with hx|hx
   ·exact cF _ x hx
   ·obtain ⟨y,_,rfl⟩:=List.mem_map.1 hx;omega
  ·cases hx
 ·exact K8 kind ps h x hx
theorem AP (l:List Nat):∀ p∈kG l,∀ x∈p.1,x<256:=λ p hp x hx=>by
 unfold kG at hp
 split at hp
 ·obtain ⟨i,_,rfl⟩:=List.mem_map.1 hp;exact gd _ x hx
 ·obtain ⟨i,_,rfl⟩:=List.mem_map.1 hp;exact jH _ _ x hx
end Go.Kw
namespace Go.Kw
theorem oP {α:Type} {l:List α} {k:Nat} {x:α} (h:l[k]? =some x):l.drop k=x::l.drop (k+1):=by
 obtain ⟨hk,rfl⟩:=List.getElem?_eq_some_iff.1 h
 exact List.drop_eq_getElem_cons hk
def y8:Nat->Nat->List Nat->Nat×Nat×Nat
 |_,_,[]=>(0,0,10)
 |i,v,c::r=>if i=9/\c≠1 then (0,0,9) else if c<128 then (if c=0/\0<i then (0,0,9) else (v+c%2^7*2^(7*i),i+1,0)) else y8 (i+1) (v+c%2^7*2^(7*i)) r
def fJ (l:List Nat):Nat×Nat×Nat:=y8 0 0 l
theorem F9:∀ (l:List Nat) (i v:Nat),(y8 i v l).2.1<=i+l.length
 |[],i,v=>by simp [y8]
 |c::r,i,v=>by
  have ih:=F9 r (i+1) (v+c%2^7*2^(7*i))
  rw [y8]
  simp only [List.length_cons]
  split
  ·simp
  ·split
   ·split
    ·simp
    ·simp<;>omega
   ·omega
theorem o6 (l:List Nat):(fJ l).2.1<=l.length:=by have:=F9 l 0 0;rw [Nat.zero_add] at this;exact this
theorem pK {v x k:Nat} (h:v<2^k):v|||x*2^k=v+x*2^k:=by
 rw [Nat.or_comm,Nat.add_comm,<-Nat.shiftLeft_eq,Nat.shiftLeft_add_eq_or_of_lt h]
theorem HR {k:Nat} (h:k<=8):2^(7*k)<=2^56:=Nat.pow_le_pow_right (by decide) (by omega)
theorem tJ {c k:Nat} (hk:k<=9) (h9:¬ (k=9/\c≠1)):c%2^7*2^(7*k)<2^64:=by
 by_cases h:k=9
 ·have:c=1:=Classical.byContradiction λ hc=>h9 ⟨h,hc⟩
  subst h;subst this;decide
 ·have:=HR (by omega:k<=8)
  have h2:c%2^7*2^(7*k)<=c%2^7*2^56:=Nat.mul_le_mul_left _ this
  omega
theorem K9 {v c k:Nat} (hv:v<2^(7*k)) (hk:k<=9) (h9:¬ (k=9/\c≠1)):v|||(c%2^7*2^(7*k)%2^64)=v+c%2^7*2^(7*k):=by
 rw [Nat.mod_eq_of_lt (tJ hk h9),pK hv]
theorem CD {v c k:Nat} (hv:v<2^(7*k)):v+c%2^7*2^(7*k)<2^(7*(k+1)):=by
 have e:2^(7*(k+1))=2^7*2^(7*k):=by rw [<-Nat.pow_add];congr 1;omega
 have h:c%2^7*2^(7*k)<=(2^7-1)*2^(7*k):=Nat.mul_le_mul_right _ (by omega)
 rw [Nat.sub_mul] at h
 have:2^(7*k)<=2^7*2^(7*k):=Nat.le_mul_of_pos_left _ (by decide)
 rw [e];omega
theorem LM:∀ y,y<256->(y|||128)%2^7=y%2^7/\128<=(y|||128)/\(y|||128)<256:=by decide+kernel
theorem AQ:∀ (f i v x:Nat) (rest:List Nat),x<128^(f+1)->i+f=9->x*2^(7*i)<2^64->(0<x\/i=0)->y8 i v (mL f x++rest)=(v+x*2^(7*i),i+(mL f x).length,0)
 |0,i,v,x,rest,hx,hi,hb,h0=>by
  have hx1:x<128:=by simpa using hx
  have h9:i=9:=by omega
  subst h9
  have hx2:x<=1:=by omega
  have hx3:x=1:=by omega
  subst hx3
  simp [mL,y8]
 |f+1,i,v,x,rest,hx,hi,hb,h0=>by
  rw [mL]
  by_cases hs:x<128
  ·rw [if_pos hs]
   have e1:x%2^8=x:=Nat.mod_eq_of_lt (by omega)
   have e2:x%2^7=x:=Nat.mod_eq_of_lt (by omega)
   rw [e1,List.singleton_append,y8,if_neg (by omega),if_pos hs,if_neg (by omega),e2]
   simp
  ·rw [if_neg hs,List.cons_append]
   obtain ⟨h1,h2,h3⟩:=LM (x%2^8) (by omega)
   rw [y8,if_neg (by omega),if_neg (Nat.not_lt.2 h2),h1]
   have hp:2^(7*(i+1))=2^7*2^(7*i):=by rw [<-Nat.pow_add];congr 1;omega
   have hdiv:x/2^7*2^(7*(i+1))+x%2^7*2^(7*i)=x*2^(7*i):=by
    rw [hp,<-Nat.mul_assoc,<-Nat.add_mul]
    congr 1
    have:=Nat.div_add_mod x (2^7);omega
   have hx7:x<2^7*128^(f+1):=by rw [Nat.pow_succ,Nat.mul_comm] at hx;exact hx
   have hb2:x/2^7*2^(7*(i+1))<2^64:=Nat.lt_of_le_of_lt (by rw [<-hdiv];exact Nat.le_add_right _ _) hb
   have ih:=AQ f (i+1) (v+x%2^8%2^7*2^(7*i)) (x/2^7) rest (Nat.div_lt_of_lt_mul hx7) (by omega) hb2 (.inl (Nat.div_pos (by omega) (by decide)))
   rw [ih]
   have e8:x%2^8%2^7=x%2^7:=by omega
   rw [e8]
   simp only [List.length_cons,Prod.mk.injEq,and_true]
   refine ⟨?_,by rw [Nat.add_assoc,Nat.add_comm 1]⟩
   rw [<-hdiv,Nat.add_assoc,Nat.add_comm (x%2^7*2^(7*i))]
theorem o7 {x:Nat} (h:x<2^64) (rest:List Nat):fJ (uv x++rest)=(x,(uv x).length,0):=by
 have:=AQ 9 0 0 x rest (by have:(2:Nat)^64<=128^10:=(by decide);omega) rfl (by simpa using h) (.inr rfl)
 simpa [fJ,uv] using this
def aR (ok:Bool) (l:List Nat) (lim:Nat):Nat×Bool×List Nat:=
 if ok=false\/(fJ l).2.2≠0\/lim<(fJ l).1 then (0,false,l) else ((fJ l).1,true,l.drop (fJ l).2.1)
theorem fK {x lim:Nat} (h:x<2^64) (hl:x<=lim) (rest:List Nat):aR true (uv x++rest) lim=(x,true,rest):=by
 unfold aR
 rw [o7 h,if_neg (by simp;omega)]
 simp
theorem ku (ok:Bool) (l:List Nat) (lim:Nat):(aR ok l lim).1<=lim:=by
 unfold aR;split
 ·simp
 ·rename_i h;simp at h;simp;omega
theorem dz (ok:Bool) (l:List Nat) (lim:Nat):∀ x∈(aR ok l lim).2.2,x∈l:=by
 unfold aR;split
 ·exact λ x h=>h
 ·exact λ x h=>List.mem_of_mem_drop h
theorem gk (ok:Bool) (l:List Nat) (lim:Nat):(aR ok l lim).2.2.length<=l.length:=by
 unfold aR;split
 ·exact Nat.le_refl _
 ·simp
def rb (l:List Nat) (i:Nat):Nat:=l.getD (i/8) 0/2^(7-i%8)%2
theorem Fa (l:List Nat) (i:Nat):rb l i<2:=Nat.mod_lt _ (by decide)
def ng (l:List Nat) (a:Nat):Nat->Nat
 |0=>0
 |m+1=>2*ng l a m+rb l (a+m)
theorem rz (l:List Nat) (a:Nat):∀ m,ng l a m<2^m
 |0=>by simp [ng]
 |m+1=>by have:=rz l a m;have:=Fa l (a+m);rw [ng,Nat.pow_succ];omega
theorem Fb {v b:Nat} (hb:b<2) (hv:v<2^63):v*2^1%2^64|||b=2*v+b:=by
 rw [Nat.mod_eq_of_lt (by omega),Nat.or_comm,pK (k:=1) (by omega)];omega
theorem xG:∀ (b0 b1 b2 b3 b4 b5 b6 b7:Bool) (j:Fin 8),(ga b0 128|||(ga b1 64|||(ga b2 32|||(ga b3 16|||(ga b4 8|||(ga b5 4|||(ga b6 2|||ga b7 1)))))))/2^(7-j.val)%2=([b0,b1,b2,b3,b4,b5,b6,b7].getD j.val false).toNat:=by decide+kernel
theorem zA (l:List Bool) (k j:Nat) (hj:j<8):cM l k/2^(7-j)%2=(ck l (8*k+j)).toNat:=by
 have h:=xG (ck l (8*k)) (ck l (8*k+1)) (ck l (8*k+2)) (ck l (8*k+3)) (ck l (8*k+4)) (ck l (8*k+5)) (ck l (8*k+6)) (ck l (8*k+7)) ⟨j,hj⟩
 unfold cM
 refine h.trans (congrArg Bool.toNat ?_)
 match j,hj with
 |0,_=>rfl
 |1,_=>rfl
 |2,_=>rfl
 |3,_=>rfl
 |4,_=>rfl
 |5,_=>rfl
 |6,_=>rfl
 |7,_=>rfl
theorem pL {l:List Bool} {i:Nat} (h:i<l.length):rb (aB l) i=(ck l i).toNat:=by
 have hg:(aB l)[i/8]? =some (cM l (i/8)):=by
  unfold aB;rw [List.getElem?_map,List.getElem?_range (by omega)];rfl
 have hd:(aB l).getD (i/8) 0=cM l (i/8):=by rw [List.getD_eq_getElem?_getD,hg];rfl
 rw [rb,hd,zA l _ _ (Nat.mod_lt _ (by decide))]
 congr 2;omega
theorem rA (x:Nat):∀ (m k:Nat),k<m->(aU x m)[k]? =some (decide (x/2^(m-1-k)%2=1))
 |0,k,h=>by omega
 |m+1,0,_=>by simp [aU]
 |m+1,k+1,h=>by
  have:=rA x m k (by omega)
  rw [aU,List.getElem?_cons_succ,this,show m+1-1-(k+1)=m-1-k by omega]
theorem o8 (A B:List Bool) (x m:Nat) (hx:x<2^m):∀ k,k<=m->ng (aB (A++aU x m++B)) A.length k=x/2^(m-k)
 |0,_=>by rw [ng,Nat.sub_zero,Nat.div_eq_of_lt hx]
 |k+1,hk=>by
  have ih:=o8 A B x m hx k (by omega)
  have hl:(A++aU x m++B).length=A.length+m+B.length:=by simp [aS,Nat.add_assoc]
  have hbit:ck (A++aU x m++B) (A.length+k)=decide (x/2^(m-1-k)%2=1):=by
   rw [ck,List.getD_eq_getElem?_getD,List.append_assoc,List.getElem?_append_right (by omega),Nat.add_sub_cancel_left,List.getElem?_append_left (by rw [aS];omega),rA x m k (by omega)];rfl
  rw [ng,ih,pL (by omega),hbit]
  have e:m-k=(m-(k+1))+1:=by omega
  have e2:m-1-k=m-(k+1):=by omega
  rw [e2,e,Nat.pow_succ,<-Nat.div_div_eq_div_mul]
  generalize x/2^(m-(k+1))=q
  by_cases h:q%2=1
  ·rw [decide_eq_true h];simp;omega
  ·rw [decide_eq_false h];simp;omega
end Go.Kw
namespace Go.Kw
theorem bV {v:Nat} (h0:0<v) (h:v<2^64):1<=Lib.bitLen v/\2^(Lib.bitLen v-1)<=v/\v<2^Lib.bitLen v:=Lib.bitLenAux_bounds 64 v h (by omega)
def gQ (v:Nat):List Bool:=aU 0 (Lib.bitLen v-1)++aU v (Lib.bitLen v)
def eP (v:Nat):List Bool:=gQ (Lib.bitLen v)++aU v (Lib.bitLen v-1)
theorem rB (v:Nat):(gQ v).length=Lib.bitLen v-1+Lib.bitLen v:=by simp [gQ,aS]
theorem xH (v:Nat):(eP v).length=(Lib.bitLen (Lib.bitLen v)-1+Lib.bitLen (Lib.bitLen v))+(Lib.bitLen v-1):=by simp [eP,rB,aS]
theorem AR {v:Nat} (h:v<2^32):(eP v).length<=42:=by
 rw [xH]
 have h1:=bitLen_le h
 have h2:Lib.bitLen (Lib.bitLen v)<=6:=bitLen_le (by omega)
 omega
theorem AS (v:Nat):∀ m k,m<=k->aU (v%2^k) m=aU v m
 |0,_,_=>rfl
 |m+1,k,h=>by
  rw [aU,aU,AS v m k (by omega)]
  congr 2
  have e:v%2^k/2^m%2^1=v/2^m%2^1:=by
   obtain ⟨d,rfl⟩:∃ d,k=m+1+d:=⟨k-(m+1),by omega⟩
   rw [Nat.pow_add,Nat.pow_succ,Nat.mul_assoc,Nat.mod_mul_right_div_self]
   rw [Nat.mod_mul_right_mod]
  rw [e]
theorem J3 (A B:List Bool) (x m k:Nat) (hk:k<m):rb (aB (A++(aU x m++B))) (A.length+k)=x/2^(m-1-k)%2:=by
 have hl:(A++(aU x m++B)).length=A.length+m+B.length:=by simp [aS,Nat.add_assoc]
 rw [pL (by omega),ck,List.getD_eq_getElem?_getD,List.getElem?_append_right (by omega),Nat.add_sub_cancel_left,List.getElem?_append_left (by rw [aS];omega),rA x m k hk]
 rw [Option.getD_some]
 rcases Nat.mod_two_eq_zero_or_one (x/2^(m-1-k)) with h|h
 ·rw [h,decide_eq_false (by omega)];rfl
 ·rw [h,decide_eq_true rfl];rfl
theorem uG (A B:List Bool) {v k:Nat} (hk:k<Lib.bitLen v-1):rb (aB (A++(gQ v++B))) (A.length+k)=0:=by
 unfold gQ
 rw [List.append_assoc,J3 A _ 0 _ k hk,Nat.zero_div]
theorem uH (A B:List Bool) {v:Nat} (h0:0<v) (h:v<2^64):rb (aB (A++(gQ v++B))) (A.length+(Lib.bitLen v-1))=1:=by
 obtain ⟨h1,h2,h3⟩:=bV h0 h
 unfold gQ
 have e:A++(aU 0 (Lib.bitLen v-1)++aU v (Lib.bitLen v)++B)=(A++aU 0 (Lib.bitLen v-1))++(aU v (Lib.bitLen v)++B):=by simp [List.append_assoc]
 have e2:A.length+(Lib.bitLen v-1)=(A++aU 0 (Lib.bitLen v-1)).length+0:=by simp [aS]
 rw [e,e2,J3 _ _ _ _ 0 (by omega),Nat.sub_zero]
 have h4:v/2^(Lib.bitLen v-1)=1:=by
  have e3:Lib.bitLen v=(Lib.bitLen v-1)+1:=by omega
  rw [e3,Nat.pow_succ] at h3
  exact Nat.div_eq_of_lt_le (by omega) (by omega)
 rw [h4]
theorem uI (A B:List Bool) {v:Nat} (h0:0<v) (h:v<2^64):ng (aB (A++(gQ v++B))) (A.length+(Lib.bitLen v-1)) (Lib.bitLen v)=v:=by
 obtain ⟨h1,h2,h3⟩:=bV h0 h
 unfold gQ
 have e:A++(aU 0 (Lib.bitLen v-1)++aU v (Lib.bitLen v)++B)=(A++aU 0 (Lib.bitLen v-1))++aU v (Lib.bitLen v)++B:=by simp [List.append_assoc]
 have e2:A.length+(Lib.bitLen v-1)=(A++aU 0 (Lib.bitLen v-1)).length:=by simp [aS]
 rw [e,e2,o8 _ _ _ _ h3 _ (Nat.le_refl _),Nat.sub_self,Nat.pow_zero,Nat.div_one]
theorem uJ (A B:List Bool) (v m:Nat):ng (aB (A++(aU v m++B))) A.length m=v%2^m:=by
 rw [<-AS v m m (Nat.le_refl _),<-List.append_assoc,o8 A B _ m (Nat.mod_lt _ (Nat.two_pow_pos m)) m (Nat.le_refl _),Nat.sub_self,Nat.pow_zero,Nat.div_one]
theorem uK {v:Nat} (h0:0<v) (h:v<2^64):2^(Lib.bitLen v-1)+v%2^(Lib.bitLen v-1)=v:=by
 obtain ⟨h1,h2,h3⟩:=bV h0 h
 have e3:Lib.bitLen v=(Lib.bitLen v-1)+1:=by omega
 have h4:v/2^(Lib.bitLen v-1)=1:=by
  rw [e3,Nat.pow_succ] at h3
  exact Nat.div_eq_of_lt_le (by omega) (by omega)
 have:=Nat.div_add_mod v (2^(Lib.bitLen v-1))
 rw [h4] at this;omega
def Fc (l:List Nat) (a x:Nat):Prop:=(∀ k,k<Lib.bitLen x-1->rb l (a+k)=0)/\rb l (a+(Lib.bitLen x-1))=1/\ng l (a+(Lib.bitLen x-1)) (Lib.bitLen x)=x
def Fe (l:List Nat) (a x:Nat):Prop:=Fc l a (Lib.bitLen x)/\ng l (a+(2*(Lib.bitLen (Lib.bitLen x)-1)+1)) (Lib.bitLen x-1)=x%2^(Lib.bitLen x-1)
theorem Ff (A B:List Bool) {x:Nat} (h0:0<x) (h:x<2^64):Fc (aB (A++(gQ x++B))) A.length x:=
 ⟨λ k hk=>uG A B hk,uH A B h0 h,uI A B h0 h⟩
theorem Fg (A B:List Bool) {x:Nat} (h0:0<x) (h:x<2^64):Fe (aB (A++(eP x++B))) A.length x:=by
 obtain ⟨h1,h2,h3⟩:=bV h0 h
 have h4:=bitLen_le64 x
 have h5:=(bV (v:=Lib.bitLen x) (by omega) (by omega)).1
 have e:A++(eP x++B)=A++(gQ (Lib.bitLen x)++(aU x (Lib.bitLen x-1)++B)):=by unfold eP;simp only [List.append_assoc]
 refine ⟨by rw [e];exact Ff A _ (by omega) (by omega),?_⟩
 have e2:A++(eP x++B)=(A++gQ (Lib.bitLen x))++(aU x (Lib.bitLen x-1)++B):=by rw [e,List.append_assoc]
 have e3:A.length+(2*(Lib.bitLen (Lib.bitLen x)-1)+1)=(A++gQ (Lib.bitLen x)).length:=by rw [List.length_append,rB];omega
 rw [e2,e3,uJ]
def da:Nat->List Nat->List Bool
 |_,[]=>[]
 |bf,p::r=>eP (p+1-bf)++da (p+1) r
def Ka (bf:Nat) (l:List Nat):Nat:=l.foldl (λ _ p=>p+1) bf
theorem Fh (bf:Nat) (l:List Nat) (p:Nat):Ka bf (l++[p])=p+1:=by simp [Ka]
theorem xI:∀ (l:List Nat) (bf p:Nat),da bf (l++[p])=da bf l++eP (p+1-Ka bf l)
 |[],bf,p=>by simp [da,Ka]
 |q::r,bf,p=>by
  rw [List.cons_append,da,da,xI r,List.append_assoc];rfl
theorem uL:∀ (l r:List Nat) (bf:Nat),da bf (l++r)=da bf l++da (Ka bf l) r
 |[],r,bf=>rfl
 |q::l,r,bf=>by rw [List.cons_append,da,da,uL l r,List.append_assoc];rfl
structure OkP (l:List Nat):Prop where
 len:l.length<=4096
 asc:l.Pairwise (· < ·)
 lt:∀ p∈l,p<4096
theorem jI:∀ (l:List Nat) (bf:Nat),(∀ p∈l,p<4096)->(da bf l).length<=42*l.length
 |[],_,_=>Nat.zero_le _
 |p::r,bf,h=>by
  have h1:=jI r (p+1) λ q hq=>h q (List.mem_cons_of_mem _ hq)
  have h2:(eP (p+1-bf)).length<=42:=AR (by have:=h p (by simp);omega)
  rw [da,List.length_append,List.length_cons];omega
def xJ (l:List Nat) (i:Nat):Nat:=Ka 0 (l.take i)
theorem nh {l:List Nat} {i p:Nat} (h:l[i]? =some p):xJ l (i+1)=p+1:=by unfold xJ;rw [ar h,Fh]
theorem zB {l:List Nat} (h:OkP l) {i p:Nat} (hp:l[i]? =some p):xJ l i<=p:=by
 cases i with
 |zero=>exact Nat.zero_le _
 |succ i=>
  have hi:=bU hp
  obtain ⟨q,hq⟩:∃ q,l[i]? =some q:=⟨_,List.getElem?_eq_getElem (by omega)⟩
  rw [nh hq]
  have h1:=List.getElem?_eq_some_iff.1 hq
  have h2:=List.getElem?_eq_some_iff.1 hp
  have:=List.pairwise_iff_getElem.1 h.asc i (i+1) (by omega) hi (by omega)
  rw [h1.2,h2.2] at this
  exact this
def je (l:List Nat):Nat->List (Nat×Nat)
 |0=>[]
 |i+1=>if i%16=0 then je l i++[(l.getD i 0,(da 0 (l.take i)).length)] else je l i
theorem ni (l:List Nat):∀ i,(je l i).length=(i+15)/16
 |0=>rfl
 |i+1=>by
  unfold je
  have:=ni l i
  split
  ·rw [List.length_append,this,List.length_singleton];omega
  ·rw [this];omega
theorem pM (l:List Nat):∀ i k x,(je l i)[k]? =some x->x=(l.getD (16*k) 0,(da 0 (l.take (16*k))).length)/\16*k<i
 |0,k,x,h=>by simp [je] at h
 |i+1,k,x,h=>by
  unfold je at h
  split at h
  ·rename_i h16
   rcases Nat.lt_or_ge k (je l i).length with h1|h1
   ·rw [List.getElem?_append_left h1] at h
    have:=pM l i k x h;exact ⟨this.1,by omega⟩
   ·rw [List.getElem?_append_right h1] at h
    have h2:=bU h
    have e:k-(je l i).length=0:=by simp at h2;omega
    rw [e] at h;cases h
    rw [ni] at h1 e
    have e2:16*k=i:=by omega
    rw [e2];exact ⟨rfl,by omega⟩
  ·have:=pM l i k x h;exact ⟨this.1,by omega⟩
def CE (s:List (Nat×Nat)):Nat->List Nat
 |0=>[]
 |k+1=>if k=0 then [] else CE s k++uv ((s.getD k (0,0)).1-(s.getD (k-1) (0,0)).1)++uv ((s.getD k (0,0)).2-(s.getD (k-1) (0,0)).2)
theorem Fi (s:List (Nat×Nat)):∀ k,∀ x∈CE s k,x<256
 |0,x,h=>by cases h
 |k+1,x,h=>by
  unfold CE at h
  split at h
  ·cases h
  ·rcases List.mem_append.1 h with h|h
   ·rcases List.mem_append.1 h with h|h
    ·exact Fi s k x h
    ·exact cF _ x h
   ·exact cF _ x h
theorem AU (s:List (Nat×Nat)):∀ k,(CE s k).length<=20*k
 |0=>Nat.zero_le _
 |k+1=>by
  unfold CE
  split
  ·exact Nat.zero_le _
  ·have h1:=AU s k
   have h2:=aK ((s.getD k (0,0)).1-(s.getD (k-1) (0,0)).1)
   have h3:=aK ((s.getD k (0,0)).2-(s.getD (k-1) (0,0)).2)
   rw [List.length_append,List.length_append];omega
def nj (l:List Nat):List Nat:=uv l.length++uv (da 0 l).length++aB (da 0 l)++CE (je l l.length) (je l l.length).length
theorem jJ (l:List Nat):∀ x∈nj l,x<256:=λ x h=>by
 unfold nj at h
 rcases List.mem_append.1 h with h|h
 ·rcases List.mem_append.1 h with h|h
  ·rcases List.mem_append.1 h with h|h<;>exact cF _ x h
  ·exact gd _ x h
 ·exact Fi _ _ x h
theorem iY {l:List Nat} (h:OkP l):(nj l).length<=40000:=by
 unfold nj
 have h1:=aK l.length
 have h2:=aK (da 0 l).length
 have h3:=jI l 0 h.lt
 have h4:=AU (je l l.length) (je l l.length).length
 have h5:=h.len
 rw [List.length_append,List.length_append,List.length_append,aM]
 rw [ni] at h4⊢
 omega
end Go.Kw
namespace Go.Kw
def db (s:ByteArray):List Nat:=uv s.size++bD s
def lI (l:List Nat):List Nat:=uv l.length++l
def pN (ps:List Pr):List Nat:=uv ps.length++ps.flatMap λ p=>db p.1++db p.2
theorem cr {x y:Nat} {r s:List Nat} (hx:x<2^64) (hy:y<2^64) (h:uv x++r=uv y++s):x=y/\r=s:=by
 have h1:=o7 hx r
 rw [h,o7 hy s] at h1
 have e:x=y:=(congrArg Prod.fst h1).symm
 subst e
 exact ⟨rfl,List.append_cancel_left h⟩
theorem zC {l m r s:List Nat} (hl:l.length<2^64) (hm:m.length<2^64) (h:lI l++r=lI m++s):l=m/\r=s:=by
 unfold lI at h
 rw [List.append_assoc,List.append_assoc] at h
 obtain ⟨h1,h2⟩:=cr hl hm h
 exact List.append_inj h2 h1
theorem rC {s t:ByteArray} (h:bD s=bD t):s=t:=by
 unfold bD at h
 have:s.data.toList=t.data.toList:=List.map_inj_right (λ a b h=>UInt8.toNat_inj.1 h)|>.1 h
 cases s;cases t
 simpa [Array.toList_inj] using this
theorem lJ {a b:ByteArray} {r s:List Nat} (ha:a.size<2^64) (hb:b.size<2^64) (h:db a++r=db b++s):a=b/\r=s:=by
 unfold db at h
 rw [List.append_assoc,List.append_assoc] at h
 obtain ⟨h1,h2⟩:=cr ha hb h
 obtain ⟨h3,h4⟩:=List.append_inj h2 (by rw [aH,aH,h1])
 exact ⟨rC h3,h4⟩
theorem uM {α β:Type} (f:α->List Nat) (g:α->β) (ok:α->Prop) (hf:∀ x y r s,ok x->ok y->f x++r=f y++s->g x=g y/\r=s):∀ (l m:List α) (r s:List Nat),(∀ x∈l,ok x)->(∀ x∈m,ok x)->l.length=m.length->l.flatMap f++r=m.flatMap f++s->l.map g=m.map g/\r=s
 |[],[],r,s,_,_,_,h=>⟨rfl,h⟩
 |[],_::_,_,_,_,_,h,_=>by cases h
 |_::_,[],_,_,_,_,h,_=>by cases h
 |x::l,y::m,r,s,hl,hm,hlen,h=>by
  rw [List.flatMap_cons,List.flatMap_cons,List.append_assoc,List.append_assoc] at h
  obtain ⟨h1,h2⟩:=hf x y _ _ (hl x (by simp)) (hm y (by simp)) h
  obtain ⟨h3,h4⟩:=uM f g ok hf l m r s (λ z hz=>hl z (by simp [hz])) (λ z hz=>hm z (by simp [hz])) (by simpa using hlen) h2
  exact ⟨by rw [List.map_cons,List.map_cons,h1,h3],h4⟩
def Fj (p:Pr):Prop:=p.1.size<2^64/\p.2.size<2^64
theorem Fk {ps qs:List Pr} {r s:List Nat} (h1:∀ p∈ps,Fj p) (h2:∀ p∈qs,Fj p) (h3:ps.length<2^64) (h4:qs.length<2^64) (h:pN ps++r=pN qs++s):ps=qs/\r=s:=by
 unfold pN at h
 rw [List.append_assoc,List.append_assoc] at h
 obtain ⟨e1,e2⟩:=cr h3 h4 h
 have:=uM (λ p:Pr=>db p.1++db p.2) id Fj (λ x y r s hx hy h=>by
  simp only [List.append_assoc] at h
  obtain ⟨a1,a2⟩:=lJ hx.1 hy.1 h
  obtain ⟨b1,b2⟩:=lJ hx.2 hy.2 a2
  exact ⟨Prod.ext a1 b1,b2⟩) ps qs r s h1 h2 e1 e2
 simpa using this
theorem CF {a b:List Bool} (hl:a.length=b.length) (h:aB a=aB b):a=b:=by
 apply List.ext_getElem hl
 intro i h1 h2
 have e1:=pL h1
 have e2:=pL h2
 rw [h,e2] at e1
 unfold ck at e1
 rw [List.getD_eq_getElem?_getD,List.getD_eq_getElem?_getD,List.getElem?_eq_getElem h1,List.getElem?_eq_getElem h2] at e1
 simp only [Option.getD_some] at e1
 cases ha:a[i]<;>cases hb:b[i]<;>simp_all
theorem HS {x y:Nat} {r s:List Bool} (hx0:0<x) (hx:x<2^32) (hy0:0<y) (hy:y<2^32) (h:eP x++r=eP y++s):x=y/\r=s:=by
 obtain ⟨a1,a2,a3⟩:=bV hx0 (by omega)
 obtain ⟨b1,b2,b3⟩:=bV hy0 (by omega)
 have a4:=bitLen_le hx
 have b4:=bitLen_le hy
 have hP:aB ([]++(gQ (Lib.bitLen x)++(aU x (Lib.bitLen x-1)++r)))=aB ([]++(gQ (Lib.bitLen y)++(aU y (Lib.bitLen y-1)++s))):=by
  unfold eP at h
  simp only [List.append_assoc,List.nil_append] at h⊢
  rw [h]
 have m:Lib.bitLen (Lib.bitLen x)=Lib.bitLen (Lib.bitLen y):=by
  have c1:=(bV (v:=Lib.bitLen x) (by omega) (by omega)).1
  have c2:=(bV (v:=Lib.bitLen y) (by omega) (by omega)).1
  rcases Nat.lt_trichotomy (Lib.bitLen (Lib.bitLen x)) (Lib.bitLen (Lib.bitLen y)) with q|q|q
  ·have e1:=uH [] (aU x (Lib.bitLen x-1)++r) (v:=Lib.bitLen x) (by omega) (by omega)
   rw [hP,uG [] _ (by omega)] at e1
   cases e1
  ·exact q
  ·have e1:=uH [] (aU y (Lib.bitLen y-1)++s) (v:=Lib.bitLen y) (by omega) (by omega)
   rw [<-hP,uG [] _ (by omega)] at e1
   cases e1
 have n:Lib.bitLen x=Lib.bitLen y:=by
  have e1:=uI [] (aU x (Lib.bitLen x-1)++r) (v:=Lib.bitLen x) (by omega) (by omega)
  rw [hP,m,uI [] _ (by omega) (by omega)] at e1
  exact e1.symm
 unfold eP at h
 rw [n,List.append_assoc,List.append_assoc] at h
 have h2:=List.append_cancel_left h
 obtain ⟨h3,h4⟩:=List.append_inj h2 (by simp [aS])
 have e1:=uJ [] [] x (Lib.bitLen y-1)
 rw [h3,uJ] at e1
 have t1:=uK hx0 (by omega)
 have t2:=uK hy0 (by omega)
 rw [n] at t1
 exact ⟨by omega,h4⟩
theorem Fl:∀ (l m:List Nat) (bf:Nat),l.length=m.length->(∀ p∈l,p<4096)->(∀ p∈m,p<4096)->l.Pairwise (· < ·)->m.Pairwise (· < ·)->(∀ p∈l,bf<=p)->(∀ p∈m,bf<=p)->da bf l=da bf m->l=m
 |[],[],_,_,_,_,_,_,_,_,_=>rfl
 |[],_::_,_,h,_,_,_,_,_,_,_=>by cases h
 |_::_,[],_,h,_,_,_,_,_,_,_=>by cases h
 |p::l,q::m,bf,hlen,h1,h2,h3,h4,h5,h6,h=>by
  rw [da,da] at h
  have hp:=h1 p (by simp);have hq:=h2 q (by simp);have hp':=h5 p (by simp);have hq':=h6 q (by simp)
  obtain ⟨e1,e2⟩:=HS (by omega) (by omega) (by omega) (by omega) h
  have e:p=q:=by omega
  subst e
  obtain ⟨a1,a2⟩:=List.pairwise_cons.1 h3
  obtain ⟨b1,b2⟩:=List.pairwise_cons.1 h4
  rw [Fl l m (p+1) (by simpa using hlen) (λ z hz=>h1 z (by simp [hz])) (λ z hz=>h2 z (by simp [hz])) a2 b2 (λ z hz=>a1 z hz) (λ z hz=>b1 z hz) e2]
theorem HT {l m:List Nat} (hl:OkP l) (hm:OkP m) (h:nj l=nj m):l=m:=by
 unfold nj at h
 simp only [List.append_assoc] at h
 have:=hl.len;have:=hm.len
 have g1:=jI l 0 hl.lt;have g2:=jI m 0 hm.lt
 obtain ⟨e1,h⟩:=cr (by omega) (by omega) h
 obtain ⟨e2,h⟩:=cr (by omega) (by omega) h
 obtain ⟨e3,_⟩:=List.append_inj h (by rw [aM,aM,e2])
 exact Fl l m 0 e1 hl.lt hm.lt hl.asc hm.asc (λ _ _=>Nat.zero_le _) (λ _ _=>Nat.zero_le _) (CF e2 e3)
end Go.Kw
namespace Go.Kw
def cT (vs:List ByteArray):List Nat:=vs.map (kF (au vs))
def dh (ns:List Nat) (n:Nat):List Nat:=(List.range ns.length).filter λ i=>decide (ns[i]? =some n)
theorem rD {ns:List Nat} {n i:Nat}:i∈dh ns n↔ns[i]? =some n:=by
 unfold dh
 rw [List.mem_filter,List.mem_range,decide_eq_true_eq]
 exact ⟨λ h=>h.2,λ h=>⟨(List.getElem?_eq_some_iff.1 h).1,h⟩⟩
theorem gH {ns:List Nat} (n:Nat) (h:ns.length<=4096):OkP (dh ns n):=by
 refine ⟨?_,?_,λ p hp=> ?_⟩
 ·have:=List.length_filter_le (λ i=>decide (ns[i]? =some n)) (List.range ns.length)
  rw [List.length_range] at this;exact Nat.le_trans this h
 ·exact (List.pairwise_lt_range (n:=ns.length)).filter _
 ·have:=(List.getElem?_eq_some_iff.1 (rD.1 hp)).1;omega
theorem CG (ns:List Nat) (x n:Nat):dh (ns++[x]) n=if x=n then dh ns n++[ns.length] else dh ns n:=by
 unfold dh
 rw [List.length_append,List.length_singleton,List.range_succ,List.filter_append]
 have e:(List.range ns.length).filter (λ i=>decide ((ns++[x])[i]? =some n))=(List.range ns.length).filter λ i=>decide (ns[i]? =some n):=by
  apply List.filter_congr
  intro i hi
  rw [List.getElem?_append_left (List.mem_range.1 hi)]
 rw [e]
 by_cases h:x=n
 ·rw [if_pos h];simp [h]
 ·rw [if_neg h];simp [h]
theorem pO {vs:List ByteArray}:∀ x∈cT vs,x<(au vs).length:=λ x hx=>by
 obtain ⟨v,hv,rfl⟩:=List.mem_map.1 hx
 exact (List.getElem?_eq_some_iff.1 (gj hv)).1
theorem HU {vs us:List ByteArray} (hW:au vs=au us) (hN:cT vs=cT us):vs=us:=by
 have hl:vs.length=us.length:=by have:=congrArg List.length hN;simpa [cT] using this
 apply List.ext_getElem hl
 intro i h1 h2
 have e:(cT vs)[i]? =(cT us)[i]? :=by rw [hN]
 unfold cT at e
 rw [List.getElem?_map,List.getElem?_map,List.getElem?_eq_getElem h1,List.getElem?_eq_getElem h2] at e
 simp only [Option.map_some,Option.some.injEq] at e
 have a1:=gj (List.getElem_mem h1)
 have a2:=gj (List.getElem_mem h2)
 rw [e,hW,a2] at a1
 exact (Option.some.inj a1).symm
theorem HV {ns ms:List Nat} {k:Nat} (h1:∀ x∈ns,x<k) (h2:∀ x∈ms,x<k) (h:∀ n,n<k->dh ns n=dh ms n):ns=ms:=by
 have key:∀ (a b:List Nat),(∀ x∈a,x<k)->(∀ n,n<k->dh a n=dh b n)->∀ (i:Nat) x,a[i]? =some x->b[i]? =some x:=λ a b ha hab i x hx=>by
  have:=rD.2 hx
  rw [hab x (ha x (mem_get' hx))] at this
  exact rD.1 this
 apply List.ext_getElem?
 intro i
 cases h3:ns[i]? with
 |some x=>exact (key ns ms h1 h i x h3).symm
 |none=>
  cases h4:ms[i]? with
  |none=>rfl
  |some x=>rw [key ms ns h2 (λ n hn=>(h n hn).symm) i x h4] at h3;cases h3
where mem_get' {α:Type} {l:List α} {i:Nat} {x:α} (h:l[i]? =some x):x∈l:=List.mem_of_getElem? h
section
variable (X:List ByteArray->List Nat) (T:List Nat->List Nat)
def uN (ns:List Nat) (k:Nat):List Nat:=(List.range k).flatMap λ n=>lI (aN (nj (dh ns n)))
def jK (a:ByteArray×Bool) (vs:List ByteArray):List Nat:=db a.1++(uv (if a.2 then 1 else 0)++(lI (X vs)++(lI (T (cT vs))++uN (cT vs) (au vs).length)))
def gI (at_:List (ByteArray×Bool)) (tk:List (List ByteArray)) (k:Nat):List Nat:=(List.range k).flatMap λ i=>jK X T (at_.getD i (ByteArray.empty,false)) (tk.map λ t=>t.getD i ByteArray.empty)
abbrev ky:=ByteArray×Int×Int×List Pr
def Iv.v (x:Iv):ky:=(x.nm,x.b,x.e,x.ps)
def gJ (x:ky):List Nat:=db x.1++(uv (x.2.2.1-x.2.1).toNat++pN x.2.2.2)
def J4 (bf:Int) (x:ky):List Nat:=db x.1++(uv (x.2.1-bf).toNat++(uv (x.2.2.1-x.2.1).toNat++pN x.2.2.2))
def fg:Int->List ky->List Nat
 |_,[]=>[]
 |bf,x::r=>J4 bf x++fg x.2.1 r
def Kb (bf:Int) (l:List ky):Int:=l.foldl (λ _ x=>x.2.1) bf
theorem tK:∀ (l:List ky) (bf:Int) (x:ky),fg bf (l++[x])=fg bf l++J4 (Kb bf l) x
 |[],bf,x=>by simp [fg,Kb]
 |y::l,bf,x=>by rw [List.cons_append,fg,fg,tK l,List.append_assoc];rfl
def rE (x:Nd):List Nat:=db x.nm++(uv (x.p+1).toNat++(uv x.b.toNat++uv (x.e-x.b).toNat))
def rF (x:Int×ByteArray):List Nat:=uv (x.1+1).toNat++db x.2
structure lN where
 at_:List (ByteArray×Bool)
 tk:List (List ByteArray)
 tx:List ky
 rg:List ky
 nd:List Nd
 hd:List Int
 rl:List ByteArray
def Co.v (c:Co):lN:=⟨c.at_,c.tk.map (·.ns),c.tx.map Iv.v,c.rg.map Iv.v,c.nd,c.hd,c.rl⟩
def fo (c:lN):List Nat:=[67,83,49]++(uv c.at_.length++(gI X T c.at_ c.tk c.at_.length++(uv c.tx.length++(c.tx.flatMap gJ++(uv c.rg.length++(fg 0 c.rg++(uv c.nd.length++(c.nd.flatMap rE++(uv c.hd.length++(c.hd.zip c.rl).flatMap rF)))))))))
end
end Go.Kw
namespace Go.Kw
theorem uO {α:Type} (f f':α->List Nat) (Q:α->Prop):∀ (L:List α) (r s:List Nat),(∀ i∈L,∀ r s,f i++r=f' i++s->Q i/\r=s)->L.flatMap f++r=L.flatMap f'++s->(∀ i∈L,Q i)/\r=s
 |[],r,s,_,h=>⟨by simp,h⟩
 |x::L,r,s,hf,h=>by
  rw [List.flatMap_cons,List.flatMap_cons,List.append_assoc,List.append_assoc] at h
  obtain ⟨h1,h2⟩:=hf x (by simp) _ _ h
  obtain ⟨h3,h4⟩:=uO f f' Q L r s (λ i hi=>hf i (by simp [hi])) h2
  exact ⟨λ i hi=>by rcases List.mem_cons.1 hi with rfl|hi;exact h1;exact h3 i hi,h4⟩
theorem nk {p:List Nat}:(aN p).length=p.length+4:=bJ p
theorem o9 {p q:List Nat} (h:aN p=aN q):p=q:=by
 have:=congrArg List.length h
 rw [nk,nk] at this
 unfold aN at h
 exact (List.append_inj h (by omega)).1
theorem HW {ns ms:List Nat} {k:Nat} {r s:List Nat} (h1:ns.length<=4096) (h2:ms.length<=4096) (h:uN ns k++r=uN ms k++s):(∀ n,n<k->dh ns n=dh ms n)/\r=s:=by
 obtain ⟨h3,h4⟩:=uO (λ n=>lI (aN (nj (dh ns n)))) (λ n=>lI (aN (nj (dh ms n)))) (λ n=>dh ns n=dh ms n) (List.range k) r s (λ n _ r s h=>by
  have a1:=iY (gH n h1);have a2:=iY (gH n h2)
  obtain ⟨e1,e2⟩:=zC (by rw [nk];omega) (by rw [nk];omega) h
  exact ⟨HT (gH n h1) (gH n h2) (o9 e1),e2⟩) h
 exact ⟨λ n hn=>h3 n (List.mem_range.2 hn),h4⟩
def uP (us:List ByteArray):Prop:=us.length<=1024/\∀ v∈us,v.size<=120
section
variable {X:List ByteArray->List Nat} {T:List Nat->List Nat}
structure XT (X:List ByteArray->List Nat) (T:List Nat->List Nat):Prop where
 xl:∀ us,uP us->(X us).length<2^64
 tl:∀ us,uP us->(T (cT us)).length<2^64
 xi:∀ us vs,uP us->uP vs->X us=X vs->au us=au vs
theorem HX (hXT:XT X T) {a b:ByteArray×Bool} {us vs:List ByteArray} {r s:List Nat} (ha:a.1.size<2^64) (hb:b.1.size<2^64) (hu:uP us) (hv:uP vs) (h:jK X T a us++r=jK X T b vs++s):(a=b/\us=vs)/\r=s:=by
 unfold jK at h
 simp only [List.append_assoc] at h
 obtain ⟨e1,h⟩:=lJ ha hb h
 obtain ⟨e2,h⟩:=cr (by split<;>omega) (by split<;>omega) h
 obtain ⟨e3,h⟩:=zC (hXT.xl us hu) (hXT.xl vs hv) h
 obtain ⟨_,h⟩:=zC (hXT.tl us hu) (hXT.tl vs hv) h
 have eW:=hXT.xi us vs hu hv e3
 rw [eW] at h
 have l1:(cT us).length<=4096:=by unfold cT;rw [List.length_map];exact Nat.le_trans hu.1 (by decide)
 have l2:(cT vs).length<=4096:=by unfold cT;rw [List.length_map];exact Nat.le_trans hv.1 (by decide)
 obtain ⟨e4,e5⟩:=HW l1 l2 h
 have eN:=HV (k:=(au vs).length) (λ x hx=>by rw [<-eW];exact pO x hx) pO e4
 refine ⟨⟨?_,HU eW eN⟩,e5⟩
 obtain ⟨a1,a2⟩:=a;obtain ⟨b1,b2⟩:=b
 simp only at e1 e2
 subst e1
 cases a2<;>cases b2<;>simp at e2⊢
theorem AV {k:Nat}:∀ (l m:List (List ByteArray)),1<=k->(∀ r∈l,r.length=k)->(∀ r∈m,r.length=k)->(∀ i,i<k->l.map (λ t=>t.getD i ByteArray.empty)=m.map (λ t=>t.getD i ByteArray.empty))->l=m
 |[],[],_,_,_,_=>rfl
 |[],_::_,h0,_,_,h=>by have:=h 0 (by omega);cases this
 |_::_,[],h0,_,_,h=>by have:=h 0 (by omega);cases this
 |x::l,y::m,h0,h1,h2,h=>by
  have e:x=y:=by
   have hx:=h1 x (by simp);have hy:=h2 y (by simp)
   apply List.ext_getElem (by omega)
   intro i q1 q2
   have:=h i (by omega)
   rw [List.map_cons,List.map_cons] at this
   have:=(List.cons.inj this).1
   rw [List.getD_eq_getElem?_getD,List.getD_eq_getElem?_getD,List.getElem?_eq_getElem q1,List.getElem?_eq_getElem q2] at this
   simpa using this
  rw [e,AV l m h0 (λ r hr=>h1 r (by simp [hr])) (λ r hr=>h2 r (by simp [hr])) λ i hi=>by
   have:=h i hi
   rw [List.map_cons,List.map_cons] at this
   exact (List.cons.inj this).2]
def Kc:Int->List ky->Prop
 |_,[]=>True
 |z,x::r=>x.2.1=z/\Kc x.2.2.1 r
def J5:Int->List ky->Prop
 |_,[]=>True
 |z,x::r=>z<=x.2.1/\J5 x.2.1 r
def Lp (x:ky):Prop:=x.1.size<2^64/\x.2.2.2.length<2^64/\(∀ p∈x.2.2.2,Fj p)/\0<=x.2.1/\x.2.1<=x.2.2.1/\x.2.2.1<4611686018427387904
theorem J6:∀ (l m:List ky) (z:Int) (r s:List Nat),(∀ x∈l,Lp x)->(∀ x∈m,Lp x)->Kc z l->Kc z m->l.length=m.length->l.flatMap gJ++r=m.flatMap gJ++s->l=m/\r=s
 |[],[],_,r,s,_,_,_,_,_,h=>⟨rfl,h⟩
 |[],_::_,_,_,_,_,_,_,_,h,_=>by cases h
 |_::_,[],_,_,_,_,_,_,_,h,_=>by cases h
 |x::l,y::m,z,r,s,h1,h2,h3,h4,hl,h=>by
  rw [List.flatMap_cons,List.flatMap_cons,show gJ x=db x.1++(uv (x.2.2.1-x.2.1).toNat++pN x.2.2.2) from rfl,show gJ y=db y.1++(uv (y.2.2.1-y.2.1).toNat++pN y.2.2.2) from rfl] at h
  simp only [List.append_assoc] at h
  have hx:=h1 x (by simp);have hy:=h2 y (by simp)
  obtain ⟨a1,a2,a3,a4,a5,a6⟩:=hx
  obtain ⟨b1,b2,b3,b4,b5,b6⟩:=hy
  obtain ⟨e1,h⟩:=lJ a1 b1 h
  obtain ⟨e2,h⟩:=cr (by omega) (by omega) h
  obtain ⟨e3,hF⟩:=Fk a3 b3 a2 b2 h
  have c1:=h3.1;have c2:=h4.1
  have e4:x.2.2.1=y.2.2.1:=by omega
  have e:x=y:=Prod.ext e1 (Prod.ext (c1.trans c2.symm) (Prod.ext e4 e3))
  subst e
  obtain ⟨q1,q2⟩:=J6 l m x.2.2.1 r s (λ w hw=>h1 w (by simp [hw])) (λ w hw=>h2 w (by simp [hw])) h3.2 h4.2 (by simpa using hl) hF
  exact ⟨by rw [q1],q2⟩
theorem rg_of:∀ (l m:List ky) (z:Int) (r s:List Nat),0<=z->(∀ x∈l,Lp x)->(∀ x∈m,Lp x)->J5 z l->J5 z m->l.length=m.length->fg z l++r=fg z m++s->l=m/\r=s
 |[],[],_,r,s,_,_,_,_,_,_,h=>⟨rfl,h⟩
 |[],_::_,_,_,_,_,_,_,_,_,h,_=>by cases h
 |_::_,[],_,_,_,_,_,_,_,_,h,_=>by cases h
 |x::l,y::m,z,r,s,hz,h1,h2,h3,h4,hl,h=>by
  rw [fg,fg] at h
  unfold J4 at h
  simp only [List.append_assoc] at h
  have hx:=h1 x (by simp);have hy:=h2 y (by simp)
  obtain ⟨a1,a2,a3,a4,a5,a6⟩:=hx
  obtain ⟨b1,b2,b3,b4,b5,b6⟩:=hy
  obtain ⟨e1,h⟩:=lJ a1 b1 h
  obtain ⟨e2,h⟩:=cr (by omega) (by omega) h
  obtain ⟨e5,h⟩:=cr (by omega) (by omega) h
  obtain ⟨e3,hF⟩:=Fk a3 b3 a2 b2 h
  have c1:=h3.1;have c2:=h4.1
  have e6:x.2.1=y.2.1:=by omega
  have e4:x.2.2.1=y.2.2.1:=by omega
  have e:x=y:=Prod.ext e1 (Prod.ext e6 (Prod.ext e4 e3))
  subst e
  obtain ⟨q1,q2⟩:=rg_of l m x.2.1 r s a4 (λ w hw=>h1 w (by simp [hw])) (λ w hw=>h2 w (by simp [hw])) h3.2 h4.2 (by simpa using hl) hF
  exact ⟨by rw [q1],q2⟩
structure OkV (a:lN):Prop where
 an:1<=a.at_.length/\a.at_.length<=8
 as:∀ x∈a.at_,x.1.size<2^64
 tn:a.tk.length<=1024
 tr:∀ r∈a.tk,r.length=a.at_.length/\∀ v∈r,v.size<=120
 xs:∀ x∈a.tx,Lp x
 xc:Kc 0 a.tx
 rs:∀ x∈a.rg,Lp x
 rc:J5 0 a.rg
 ns:∀ x∈a.nd,x.nm.size<2^64/\-1<=x.p/\x.p<4611686018427387904/\0<=x.b/\x.b<=x.e/\x.e<4611686018427387904
 hl:a.hd.length=a.rl.length
 hs:∀ x∈a.hd.zip a.rl,-1<=x.1/\x.1<4611686018427387904/\x.2.size<2^64
 ls:a.tx.length<2^64/\a.rg.length<2^64/\a.nd.length<2^64/\a.hd.length<2^64
theorem HY (hXT:XT X T) {a b:lN} (ha:OkV a) (hb:OkV b) {r s:List Nat} (h:fo X T a++r=fo X T b++s):a=b/\r=s:=by
 unfold fo at h
 simp only [List.append_assoc] at h
 have h:=List.append_cancel_left h
 obtain ⟨e1,h⟩:=cr (by have:=ha.an;omega) (by have:=hb.an;omega) h
 rw [<-e1] at h
 unfold gI at h
 have hU:∀ (c:lN),OkV c->∀ i,uP (c.tk.map λ t=>t.getD i ByteArray.empty):=λ c hc i=>⟨by rw [List.length_map];exact hc.tn,λ v hv=>by
  obtain ⟨t,ht,rfl⟩:=List.mem_map.1 hv
  rw [List.getD_eq_getElem?_getD]
  cases he:t[i]? with
  |none=>exact Nat.zero_le _
  |some v=>exact (hc.tr t ht).2 v (List.mem_of_getElem? he)⟩
 have hS:∀ (c:lN),OkV c->∀ i,(c.at_.getD i (ByteArray.empty,false)).1.size<2^64:=λ c hc i=>by
  rw [List.getD_eq_getElem?_getD]
  cases he:c.at_[i]? with
  |none=>exact Nat.two_pow_pos 64
  |some v=>exact hc.as v (List.mem_of_getElem? he)
 obtain ⟨h1,h⟩:=uO _ _ (λ i=>a.at_.getD i (ByteArray.empty,false)=b.at_.getD i (ByteArray.empty,false)/\(a.tk.map λ t=>t.getD i ByteArray.empty)=b.tk.map λ t=>t.getD i ByteArray.empty) (List.range a.at_.length) _ _ (λ i _ r s h=>HX hXT (hS a ha i) (hS b hb i) (hU a ha i) (hU b hb i) h) h
 have eA:a.at_=b.at_:=List.ext_getElem e1 λ i q1 q2=>by
  have:=(h1 i (List.mem_range.2 q1)).1
  rw [List.getD_eq_getElem?_getD,List.getD_eq_getElem?_getD,List.getElem?_eq_getElem q1,List.getElem?_eq_getElem q2] at this
  simpa using this
 have eT:a.tk=b.tk:=AV a.tk b.tk ha.an.1 (λ r hr=>(ha.tr r hr).1) (λ r hr=>by rw [e1];exact (hb.tr r hr).1) λ i hi=>(h1 i (List.mem_range.2 hi)).2
 obtain ⟨e2,h⟩:=cr ha.ls.1 hb.ls.1 h
 obtain ⟨eX,h⟩:=J6 _ _ 0 _ _ ha.xs hb.xs ha.xc hb.xc e2 h
 obtain ⟨e3,h⟩:=cr ha.ls.2.1 hb.ls.2.1 h
 obtain ⟨eR,h⟩:=rg_of _ _ 0 _ _ (Int.le_refl _) ha.rs hb.rs ha.rc hb.rc e3 h
 obtain ⟨e4,h⟩:=cr ha.ls.2.2.1 hb.ls.2.2.1 h
 obtain ⟨eN,h⟩:=uM rE id (λ x:Nd=>x.nm.size<2^64/\-1<=x.p/\x.p<4611686018427387904/\0<=x.b/\x.b<=x.e/\x.e<4611686018427387904) (λ x y r s hx hy h=>by
  unfold rE at h
  simp only [List.append_assoc] at h
  obtain ⟨a1,a2,a3,a4,a5,a6⟩:=hx
  obtain ⟨b1,b2,b3,b4,b5,b6⟩:=hy
  obtain ⟨e1,h⟩:=lJ a1 b1 h
  obtain ⟨e2,h⟩:=cr (by omega) (by omega) h
  obtain ⟨e3,h⟩:=cr (by omega) (by omega) h
  obtain ⟨e4,h⟩:=cr (by omega) (by omega) h
  refine ⟨?_,h⟩
  clear h
  show x=y
  obtain ⟨x1,x2,x3,x4⟩:=x;obtain ⟨y1,y2,y3,y4⟩:=y
  simp only at a2 a3 a4 a5 a6 b2 b3 b4 b5 b6 e1 e2 e3 e4
  rw [Nd.mk.injEq]
  exact ⟨e1,by omega,by omega,by omega⟩) _ _ _ _ ha.ns hb.ns e4 h
 rw [List.map_id,List.map_id] at eN
 obtain ⟨e5,h⟩:=cr ha.ls.2.2.2 hb.ls.2.2.2 h
 obtain ⟨eH,h⟩:=uM rF id (λ x:Int×ByteArray=> -1<=x.1/\x.1<4611686018427387904/\x.2.size<2^64) (λ x y r s hx hy h=>by
  unfold rF at h
  simp only [List.append_assoc] at h
  obtain ⟨e1,h⟩:=cr (by omega) (by omega) h
  obtain ⟨e2,h⟩:=lJ hx.2.2 hy.2.2 h
  exact ⟨Prod.ext (by simp only [id];omega) e2,h⟩) _ _ _ _ ha.hs hb.hs (by rw [List.length_zip,List.length_zip,<-ha.hl,<-hb.hl,e5]) h
 rw [List.map_id,List.map_id] at eH
 have eh:a.hd=b.hd:=by
  have:=congrArg (List.map Prod.fst) eH
  rwa [List.map_fst_zip (by rw [ha.hl];exact Nat.le_refl _),List.map_fst_zip (by rw [hb.hl];exact Nat.le_refl _)] at this
 have el:a.rl=b.rl:=by
  have:=congrArg (List.map Prod.snd) eH
  rwa [List.map_snd_zip (by rw [ha.hl];exact Nat.le_refl _),List.map_snd_zip (by rw [hb.hl];exact Nat.le_refl _)] at this
 refine ⟨?_,h⟩
 cases a;cases b
 simp only [lN.mk.injEq]
 exact ⟨eA,eT,eX,eR,eN,eh,el⟩
end
end Go.Kw
namespace Go.Kw
theorem bA {s:ByteArray} (h:bk s=true):s.size<=32:=by
 unfold bk at h
 exact of_decide_eq_true (Bool.and_eq_true _ _▸h).1
theorem gK {s:ByteArray} (h:iN s=true):s.size<=120:=by
 unfold iN at h
 exact of_decide_eq_true (Bool.and_eq_true _ _▸h).1
theorem okPs.sz {ps:List Pr} (h:okPs ps):∀ p∈ps,Fj p:=λ p hp=>by
 have h1:=bA (h.2.1 p hp).1
 have h2:=gK (h.2.1 p hp).2
 exact ⟨by omega,by omega⟩
theorem HZ {x y:Iv} (h:dR x y<=0):x.b<=y.b:=by
 rcases (by omega:y.b<x.b\/x.b<=y.b) with q|q
 ·unfold dR dG at h
  rw [if_neg (show ¬ x.b<y.b by omega),if_pos q,if_pos (by omega)] at h
  omega
 ·exact q
theorem J7:∀ (l:List Iv) (z:Int),(∀ x,l[0]? =some x->x.b=z)->(∀ (i:Nat) x y,l[i]? =some x->l[i+1]? =some y->y.b=x.e)->Kc z (l.map Iv.v)
 |[],_,_,_=>trivial
 |x::l,z,h1,h2=>⟨h1 x rfl,J7 l x.e (λ y hy=>h2 0 x y rfl (by simpa using hy)) λ i a b ha hb=>h2 (i+1) a b (by simpa using ha) (by simpa using hb)⟩
theorem J8:∀ (l:List Iv) (z:Int),(∀ x,l[0]? =some x->z<=x.b)->(∀ (i:Nat) x y,l[i]? =some x->l[i+1]? =some y->x.b<=y.b)->J5 z (l.map Iv.v)
 |[],_,_,_=>trivial
 |x::l,z,h1,h2=>⟨h1 x rfl,J8 l x.b (λ y hy=>h2 0 x y rfl (by simpa using hy)) λ i a b ha hb=>h2 (i+1) a b (by simpa using ha) (by simpa using hb)⟩
theorem OkC.MS {k:Nat} {c:Co} (h:OkC k c) (hk:k<=80):OkV c.v:=by
 have hn:=h.ntk
 have bd:∀ {b e:Int},inT c.tx b e->0<=b/\b<=e/\e<4611686018427387904:=λ q=>by
  have:=q.bd h.tx;omega
 have hdl:c.hd.length=c.rl.length/\c.hd.length<=4096:=by
  rcases h.hd with ⟨a,b⟩|a
  ·rw [a,b];exact ⟨rfl,Nat.zero_le _⟩
  ·have:=a.len;omega
 refine ⟨h.at_.2,λ x hx=> ?_,?_,λ r hr=> ?_,λ x hx=> ?_,J7 _ _ h.tx.first h.tx.next,λ x hx=> ?_,J8 _ _ (λ x hx=> ?_) (λ i x y hx hy=>HZ (h.rg.asc i x y hx hy)),λ x hx=> ?_,hdl.1,λ x hx=> ?_,?_⟩
 ·obtain ⟨i,hi⟩:=List.getElem?_of_mem hx
  have:=bA (h.at_.1 i x hi).1;omega
 ·show (c.tk.map (·.ns)).length<=1024
  rw [List.length_map];omega
 ·obtain ⟨t,ht,rfl⟩:=List.mem_map.1 hr
  have q:=h.tk t ht
  refine ⟨q.1,λ v hv=> ?_⟩
  obtain ⟨i,hi⟩:=List.getElem?_of_mem hv
  have hl:=(List.getElem?_eq_some_iff.1 hi).1
  exact gK (q.2 i v _ hi (List.getElem?_eq_getElem (by omega))).val
 ·obtain ⟨t,ht,rfl⟩:=List.mem_map.1 hx
  obtain ⟨q1,q2,q3,q4,q5⟩:=h.tx.nm t ht
  have:=bA q1
  exact ⟨by show t.nm.size<_;omega,by show t.ps.length<_;have:=q2.1;omega,q2.sz,q3,by show t.b<=t.e;omega,by show t.e<_;omega⟩
 ·obtain ⟨t,ht,rfl⟩:=List.mem_map.1 hx
  obtain ⟨q1,q2,q3⟩:=h.rg.el t ht
  have:=bA q1
  have q4:=bd q2
  exact ⟨by show t.nm.size<_;omega,by show t.ps.length<_;have:=q3.1;omega,q3.sz,q4.1,q4.2.1,q4.2.2⟩
 ·exact (bd (h.rg.el x (List.mem_of_getElem? hx)).2.1).1
 ·have q:=h.nd.el x hx
  have:=bA q.1
  have q4:=bd q.2
  obtain ⟨i,hi⟩:=List.getElem?_of_mem hx
  have hil:i<c.nd.length:=(List.getElem?_eq_some_iff.1 hi).1
  have:=h.nnd
  have q5:=h.nd.par i x hi
  exact ⟨by omega,by omega,by omega,q4⟩
 ·obtain ⟨i,hi⟩:=List.getElem?_of_mem hx
  rw [show c.v.hd=c.hd from rfl,show c.v.rl=c.rl from rfl,List.getElem?_zip_eq_some] at hi
  rcases h.hd with ⟨a,b⟩|a
  ·rw [a] at hi;simp at hi
  ·have q1:=a.el i x.1 hi.1
   have q2:=a.nm x.2 (List.mem_of_getElem? hi.2)
   refine ⟨?_,?_,?_⟩
   ·rcases q1 with e|⟨t,ht,e⟩
    ·omega
    ·have:=h.tx.nm t ht;omega
   ·rcases q1 with e|⟨t,ht,e⟩
    ·omega
    ·have:=h.tx.nm t ht;omega
   ·rcases q2 with e|e
    ·rw [e];exact Nat.two_pow_pos 64
    ·have:=bA e;omega
 ·have h1:=h.ntx;have h2:=h.nrg;have h3:=h.nnd
  refine ⟨?_,?_,?_,?_⟩
  ·show (c.tx.map Iv.v).length<_;rw [List.length_map];omega
  ·show (c.rg.map Iv.v).length<_;rw [List.length_map];omega
  ·show c.nd.length<_;omega
  ·show c.hd.length<_;omega
end Go.Kw
