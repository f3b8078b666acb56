/-
 KSH:elements moved up within a row (copy(m[k+1:],m[k:]));remainders of any number;a tape of numbers. Our own text;it names no program.
-/
import Derived.Test.YthffkcnbdehceaaGreatKy
open List
set_option linter.unusedVariables false
set_option linter.unusedSimpArgs false
set_option linter.unusedSectionVars false
namespace Go.Kw
open Go.RowKit
section
variable {P:Program} {n:Nat} {L:ay} {w w0:World} {cs:List Chunk} {K:Value->World->Prop} {d:Option Nat} {ty:TypeId} {pos:String} {af:Array Edge} {g:Option (Nat×Bool)} {α:Type} {E:Enc α}
theorem uK (w:World) (dT sT ty elem:TypeId) (g o dLen dCap:Nat) (a:Addr) (sLen sCap m:Nat) (cur:Array Value) (t:TypeId) (cs:List Value)
  (hu:P.underlying dT=some (.slice elem)) (hs:(P.info? elem).map (·.size)=some m)
  (hg:w.heap[g]? =some (.cells cur t (0,0))) (hn:cs.length=Nat.min sLen dLen*m)
  (hsrc:∀ j v,cs[j]? =some v->w.cell? (a.add j)=some v) (hfit:o+cs.length<=cur.size) (h1:∀ v∈cs,v.oneCell'=true):
  (Builtin.copy_ #[dT,sT] ty #[.slice (some ⟨g,o,none⟩) dLen dCap,.slice (some a) sLen sCap]).run P w=
   .ok (goInt ((Nat.min sLen dLen:Nat):Int)) (w.setRow g (cur.toList.take o++cs++cur.toList.drop (o+cs.length)).toArray):=by
 have hl:=run_loadCells_list (P:=P) w a cs hsrc
 have hst:=run_storeCells_at P g o t cs 0 cur w hg (by simpa using hfit) h1
 cases hq:P.info? elem with
 |none=>simp [hq] at hs
 |some i=>
  have hi:i.size=m:=by simpa [hq] using hs
  rw [hn] at hl
  simp [Builtin.copy_,run_underlying hu,Builtin.lenOf,Builtin.firstCells,sizeOf,typeInfo,hq,hi,hl,hst]
theorem OpE.ND {x y:Operand} {t tx e b k:Nat} {z v:Value} {l:List α} (i:Nat) (hty:SlTy P t e E.s z b) (hs:Sat w0 cs w) (hi:cs[i]? =some (cL v e E l)) (hx:aI L x=some (gu E.s v (k+1) l.length)) (hy:aI L y=some (gu E.s v k l.length))
  (hk:k<l.length) (h:∀ w',Sat w0 (cs.set i (cL v e E (l.take (k+1)++(l.drop k).take (l.length-(k+1))))) w'->K (.int .i64 ((l.length-(k+1):Nat):Int)) w'):
  OpE P n L w ⟨d,.call ⟨.builtin .copy,#[x,y],#[t,tx]⟩,ty,pos,af,g⟩ K:=by
 obtain ⟨inf,i1,i2,i3,i4⟩:=hty.info
 have hsz:(P.info? e).map (·.size)=some E.s:=by rw [i1];simp [i3]
 have hown:=hs.get hi
 obtain ⟨hlen,⟨rfl,hl0⟩|⟨gg,cap,cur,rfl,hg0,hh,hnc,hcm,hcs,ht⟩⟩:=hown
 ·omega
 obtain ⟨ms,hms⟩:∃ ms,ms=(l.drop k).take (l.length-(k+1)):=⟨_,rfl⟩
 have hml:ms.length=l.length-(k+1):=by rw [hms];simp;omega
 have hcells:∀ j u,(E.all ms)[j]? =some u->w.cell? ⟨gg,k*E.s+j,none⟩=some u:=λ j u hu=>by
  rw [cell_of_heap hh]
  have e1:(E.all l).drop (k*E.s)=E.all (l.drop k):=E.all_drop l k
  have e2:(E.all (l.drop k)).take ((l.length-(k+1))*E.s)=E.all ms:=by rw [hms];exact E.all_take _ _
  rw [<-e2,<-e1,getElem?_take] at hu
  split at hu
  ·rw [getElem?_drop,<-ht,getElem?_take] at hu
   split at hu
   ·simpa using hu
   ·cases hu
  ·cases hu
 have hdst:∃ o,gu E.s (.slice (some ⟨gg,0,none⟩) l.length cap) (k+1) l.length= .slice (some ⟨gg,o,none⟩) (l.length-(k+1)) (cap-(k+1))/\((o=(k+1)*E.s)\/(l.length=k+1/\o=0)):=by
  by_cases hc:cap=k+1
  ·exact ⟨0,by simp only [gu];rw [if_pos hc],.inr ⟨by omega,rfl⟩⟩
  ·exact ⟨(k+1)*E.s,by simp only [gu];rw [if_neg hc];simp only [Option.map_some,Addr.add_lit,Nat.zero_add],.inl rfl⟩
 obtain ⟨o,hd,ho⟩:=hdst
 have hsrc:gu E.s (.slice (some ⟨gg,0,none⟩) l.length cap) k l.length= .slice (some ⟨gg,k*E.s,none⟩) (l.length-k) (cap-k):=by
  simp only [gu];rw [if_neg (by omega)];simp only [Option.map_some,Addr.add_lit,Nat.zero_add]
 rw [hd] at hx;rw [hsrc] at hy
 have hmin:Nat.min (l.length-k) (l.length-(k+1))=l.length-(k+1):=Nat.min_eq_right (by omega)
 have hal:(E.all ms).length=(l.length-(k+1))*E.s:=by rw [E.all_length,hml]
 have hsize:cur.toList.length=cap*E.s:=by simpa using hcs
 have hmul:(k+1)*E.s+(l.length-(k+1))*E.s<=cap*E.s:=by rw [<-Nat.add_mul];exact Nat.mul_le_mul_right _ (by omega)
 have hfit:o+(l.length-(k+1))*E.s<=cap*E.s:=by
  rcases ho with ho|⟨ho1,ho2⟩
  ·subst ho;exact hmul
  ·subst ho2;rw [ho1,Nat.sub_self,Nat.zero_mul];omega
 have hrun:=uK (P:=P) w t tx ty e gg o (l.length-(k+1)) (cap-(k+1)) ⟨gg,k*E.s,none⟩ (l.length-k) (cap-k) E.s cur e (E.all ms) hty.und hsz hh
  (by rw [hal,hmin]) (λ j u hu=>by rw [Addr.add_lit];exact hcells j u hu) (by rw [hal,<-Array.length_toList,hsize];exact hfit) (E.all_oneCell ms)
 rw [hmin] at hrun
 refine .val (v:= .int .i64 ((l.length-(k+1):Nat):Int)) (w':=w.setRow gg (cur.toList.take o++E.all ms++cur.toList.drop (o+(E.all ms).length)).toArray) (λ ρ hρ=> ?_) (h _ ?_)
 ·have e1:=hρ hx
  have e2:=hρ hy
  simp only [BigFrame.execOp_builtin,BigFrame.builtin_copy]
  simp only [map_toArray,map_cons,map_nil,e1,e2,Sem.run_bind,hrun,Result.andThen_ok,Sem.run_pure]
  rfl
 ·rw [<-hms]
  have hnl:(l.take (k+1)++ms).length=l.length:=by rw [length_append,length_take,hml];omega
  refine hs.set i hi ⟨rfl,rfl,rfl,by simp,λ q _ hq=>setRow_other w gg q _ (λ e=>hq (by simp [cL,qh,bD,e]))⟩ ?_ (λ _ hq=> .inl hq)
  refine ⟨E.all_length _,.inr ⟨gg,cap,_,?_,hg0,setRow_heap w gg cur _ e _ hh,by omega,hcm,?_,?_⟩⟩
  ·rw [hnl]
  ·rcases ho with ho|⟨ho1,ho2⟩
   ·subst ho
    simp only [size_toArray,length_append,length_take,length_drop,hsize,hal]
    rw [Nat.min_eq_left (Nat.le_trans (Nat.le_add_right _ _) hmul)];omega
   ·subst ho2
    have:(E.all ms).length=0:=by rw [hal,ho1,Nat.sub_self,Nat.zero_mul]
    simp only [size_toArray,length_append,length_take,length_drop,hsize,this];omega
  ·rw [hnl,E.all_append]
   rcases ho with ho|⟨ho1,ho2⟩
   ·subst ho
    have e3:E.all (l.take (k+1))=cur.toList.take ((k+1)*E.s):=by
     rw [<-E.all_take,<-ht,take_take,Nat.min_eq_left (Nat.mul_le_mul_right _ (by omega))]
    rw [e3]
    have e4:(cur.toList.take ((k+1)*E.s)++E.all ms).length=l.length*E.s:=by
     rw [length_append,length_take,hal,hsize,Nat.min_eq_left (Nat.le_trans (Nat.le_add_right _ _) hmul),<-Nat.add_mul]
     congr 1;omega
    simp only
    rw [take_append_of_le_length (by rw [e4];exact Nat.le_refl _),<-e4,take_length]
   ·subst ho2
    have hm0:ms=[]:=eq_nil_of_length_eq_zero (by rw [hml,ho1,Nat.sub_self])
    subst hm0
    simp only [Enc.all_nil,take_zero,nil_append,length_nil,Nat.add_zero,drop_zero,append_nil]
    rw [show l.take (k+1)=l from take_of_length_le (by omega)];exact ht
theorem Ma {M:List α} {z x:α} {k:Nat} (hk:k<=M.length):(((M++[z]).take (k+1)++((M++[z]).drop k).take ((M++[z]).length-(k+1))).set k x)=M.take k++x::M.drop k:=by
 apply ext_getElem?
 intro i
 rw [getElem?_set]
 have hl:(M++[z]).length=M.length+1:=by simp
 rw [hl]
 by_cases h:k=i
 ·subst h
  rw [if_pos rfl,getElem?_append_right (by simp;omega)]
  simp only [length_append,length_take,length_drop,hl,length_take]
  rw [if_pos (by omega),show k-min k M.length=0 by omega];rfl
 ·rw [if_neg h]
  rcases Nat.lt_or_ge i k with q|q
  ·rw [getElem?_append_left (by simp;omega),getElem?_append_left (by simp;omega),getElem?_take,getElem?_take,if_pos (by omega),if_pos q,getElem?_append_left (by omega)]
  ·have e1:((M++[z]).take (k+1)).length=k+1:=by simp;omega
   have e2:(M.take k).length=k:=by simp;omega
   rw [getElem?_append_right (by omega),getElem?_append_right (by omega),e1,e2,getElem?_take,getElem?_drop,show i-k=(i-(k+1))+1 by omega,getElem?_cons_succ,getElem?_drop]
   split
   ·rw [getElem?_append_left (by omega)]
   ·rw [getElem?_eq_none (by omega)]
theorem Ev.PW {k:IntKind} {x y:Operand} {xt yt:TypeId} {a:Int} {b:Nat} (hx:aI L x=some (.int k a)) (hy:aI L y=some (.int k (b:Int))) (hb:0<b):Ev P n L w ⟨d,.binOp .rem xt x y yt,ty,pos,af,g⟩ (.int k (a.tmod (b:Int))):=
 .bin hx hy (eqGuard_at_int ..) λ w=>by
  have h0:(b:Int)≠0:=by omega
  simp only [binOp,Op.intDiv,h0,if_false,go_sem]
  simp [go_sem]
theorem Jl (x:Int) (n:Nat) (h:0<n): -(n:Int)<x.tmod n/\x.tmod n<n:=by
 have h1:=Int.tmod_lt_of_pos x (show (0:Int)<n by omega)
 refine ⟨?_,h1⟩
 have h2:=Int.tmod_lt_of_pos (-x) (show (0:Int)<n by omega)
 rw [Int.neg_tmod] at h2;omega
end
def uD (T:Nat) (w0:World) (g:Nat):Chunk where
 foot:=[g]
 holds w:=∃ v zs a,RdL w0 v (encI .i64) zs/\zs.length<=120/\a<=zs.length/\w.heap[g]? =some (.cells #[v,.int .i64 ((a:Nat):Int)] T (0,0))
 stable w w' h hc:=by
  obtain ⟨v,zs,a,h1,h2,h3,h4⟩:=hc
  exact ⟨v,zs,a,h1,h2,h3,by rw [h g (by simp)];exact h4⟩
theorem Sat.imp {w0 w:World} {c d:Chunk} {cs:List Chunk} (h:Sat w0 (c::cs) w) (hf:d.foot=c.foot) (hh:c.holds w->d.holds w):Sat w0 (d::cs) w:=by
 refine ⟨h.old,λ e he=> ?_,pairwise_cons.2 ⟨λ e he k hk=> ?_,(pairwise_cons.1 h.apart).2⟩⟩
 ·rcases mem_cons.1 he with rfl|he
  ·have:=h.holds c (by simp)
   exact ⟨hh this.1,by rw [hf];exact this.2⟩
  ·exact h.holds e (by simp [he])
 ·rw [hf] at hk
  exact (pairwise_cons.1 h.apart).1 e he k hk
theorem Sat.Nx {T:Nat} {w0 w:World} {g:Nat} {cs:List Chunk} (h:Sat w0 ([uD T w0 g]++cs) w):∃ v zs a,RdL w0 v (encI .i64) zs/\zs.length<=120/\a<=zs.length/\Sat w0 ([aj g T [v,.int .i64 ((a:Nat):Int)]]++cs) w:=by
 obtain ⟨v,zs,a,h1,h2,h3,h4⟩:=(h.holds (uD T w0 g) (by simp)).1
 exact ⟨v,zs,a,h1,h2,h3,Sat.imp h rfl λ _=>h4⟩
theorem Sat.xV {T:Nat} {w0 w:World} {g:Nat} {cs:List Chunk} {v:Value} {zs:List Int} {a:Nat} (h:Sat w0 ([aj g T [v,.int .i64 ((a:Nat):Int)]]++cs) w) (h1:RdL w0 v (encI .i64) zs) (h2:zs.length<=120) (h3:a<=zs.length):Sat w0 ([uD T w0 g]++cs) w:=
 Sat.imp h rfl λ h4=>⟨v,zs,a,h1,h2,h3,h4⟩
def Gb:Enc Unit:=⟨0,λ _=>[],λ _=>rfl,λ x u h=>by cases h⟩
theorem Gc (l:List Unit):Gb.all l=[]:=by
 induction l with
 |nil=>rfl
 |cons x r ih=>rw [Enc.all_cons,ih];rfl
theorem RdL.sz {α:Type} {E:Enc α} {w w':World} {v:Value} {l:List α} (h:RdL w v E l):RdL w' v Gb (List.replicate l.length ()):=by
 obtain ⟨a,cap,rfl,hn,_⟩:=h
 exact ⟨a,cap,by rw [length_replicate],by rw [length_replicate];exact hn,λ j u hu=>by rw [Gc] at hu;cases hu⟩
end Go.Kw
