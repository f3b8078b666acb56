/-
 KSH:elements moved up within a row (copy(m[k+1:],m[k:]));remainders of any number;a tape of numbers. Our own text;it names no program.
-/
import Derived.Test.YtcmldpiicnobnaaGreatDoorKau
set_option linter.all false
open Go.Proofs.YtcmldpiicnobnaaGreatDoor
open List
namespace Go.Kw
open Go.RowKit
section
variable {P:Program} {n:Nat} {L:aA} {w w0:World} {cs:List Chunk} {K:Value->World->Prop} {d:Option Nat} {ty:TypeId} {pos:String} {af:Array Edge} {g:Option (Nat×Bool)} {α:Type} {E:Enc α}
def qV(w:World)(dT sT ty elem:TypeId)(g o dLen dCap:Nat)(a:Addr)(sLen sCap m:Nat)(cur:Array Value)(t:TypeId)(cs:List Value)
  (hu:P.underlying dT=some (.slice elem)) (hs:(P.info? elem).map (·.size)=some m)
  (hg:w.heap[g]? =some (.cells cur t (0,0))) (hn:cs.length=Nat.min sLen dLen*m)
  (hsrc:∀ j v,cs[j]? =some v->w.cell? (a.add j)=some v) (hfit:o+cs.length<=cur.size) (h1:∀ v∈cs,v.oneCell'=true):
  (Builtin.copy_ #[dT,sT] ty #[.slice (some ⟨g,o,none⟩) dLen dCap,.slice (some a) sLen sCap]).run P w=
   .ok (goInt ((Nat.min sLen dLen:Nat):Int)) (w.setRow g (cur.toList.take o++cs++cur.toList.drop (o+cs.length)).toArray):=by
 have hl:=Qn (P:=P) w a cs hsrc;have hst:=Rj P g o t cs 0 cur w hg (by simpa using hfit) h1;cases hq:P.info? elem with
 |none=>simp[hq]at hs
 |some i=>
  have hi:i.size=m:=by simpa[hq]using hs
  rw[hn]at hl;simp[Builtin.copy_,OH hu,Builtin.lenOf,Builtin.firstCells,sizeOf,typeInfo,hq,hi,hl,hst]
def OpE.Ld{x y:Operand}{t tx e b k:Nat}{z v:Value}{l:List α}(i:Nat)(hty:SlTy P t e E.s z b)(hs:Sat w0 cs w)(hi:cs[i]? =some (cL v e E l))(hx:aH L x=some (gk E.s v (k+1) l.length))(hy:aH L y=some (gk E.s v k l.length))
  (hk:k<l.length) (h:∀ w',Sat w0 (cs.set i (cL v e E (l.take (k+1)++(l.drop k).take (l.length-(k+1))))) w'->K (.int .i64 ((l.length-(k+1):Nat):Int)) w'):
  OpE P n L w ⟨d,.call ⟨.builtin .copy,#[x,y],#[t,tx]⟩,ty,pos,af,g⟩ K:=by
 obtain⟨inf,i1,i2,i3,i4⟩:=hty.info;have hsz:(P.info? e).map (·.size)=some E.s:=by rw[i1];simp[i3]
 have hown:=hs.get hi;obtain⟨hlen,⟨rfl,hl0⟩|⟨gg,cap,cur,rfl,hg0,hh,hnc,hcm,hcs,ht⟩⟩:=hown
 ·omega
 obtain⟨ms,hms⟩:∃ ms,ms=(l.drop k).take (l.length-(k+1)):=⟨_,J⟩;have hml:ms.length=l.length-(k+1):=by rw[hms];simp;omega
 have hcells:∀ j u,(E.all ms)[j]? =some u->w.cell? ⟨gg,k*E.s+j,none⟩=some u:=λ j u hu=>by
  rw[cell_of_heap hh];have e1:(E.all l).drop (k*E.s)=E.all (l.drop k):=E.all_drop l k;have e2:(E.all (l.drop k)).take ((l.length-(k+1))*E.s)=E.all ms:=by rw[hms];exact E.all_take _ _
  rw[<-e2,<-e1,Pg]at hu;split at hu
  ·rw[Q0,<-ht,Pg]at hu;split at hu
   ·simpa using hu
   ·cases hu
  ·cases hu
 have hdst:∃ o,gk E.s (.slice (some ⟨gg,0,none⟩) l.length cap) (k+1) l.length= .slice (some ⟨gg,o,none⟩) (l.length-(k+1)) (cap-(k+1))/\((o=(k+1)*E.s)\/(l.length=k+1/\o=0)):=by
  by_cases hc:cap=k+1
  ·exact⟨0,by simp only[gk];rw[Ow hc],.inr ⟨by omega,J⟩⟩
  ·exact⟨(k+1)*E.s,by simp only[gk];rw[OB hc];simp only[PY,Ph,Pa],.inl J⟩
 obtain⟨o,hd,ho⟩:=hdst;have hsrc:gk E.s (.slice (some ⟨gg,0,none⟩) l.length cap) k l.length= .slice (some ⟨gg,k*E.s,none⟩) (l.length-k) (cap-k):=by
  simp only[gk];rw[OB (by omega)];simp only[PY,Ph,Pa]
 rw[hd]at hx;rw[hsrc]at hy;have hmin:Nat.min (l.length-k) (l.length-(k+1))=l.length-(k+1):=Nat.min_eq_right (by omega);have hal:(E.all ms).length=(l.length-(k+1))*E.s:=by rw[E.all_length,hml]
 have hsize:cur.toList.length=cap*E.s:=by simpa using hcs
 have hmul:(k+1)*E.s+(l.length-(k+1))*E.s<=cap*E.s:=by rw[<-Pp];exact PS _ (by omega)
 have hfit:o+(l.length-(k+1))*E.s<=cap*E.s:=by
  rcases ho with ho|⟨ho1,ho2⟩
  ·subst ho;exact hmul
  ·subst ho2;rw[ho1,PX,Rq];omega
 have hrun:=qV (P:=P) w t tx ty e gg o (l.length-(k+1)) (cap-(k+1)) ⟨gg,k*E.s,none⟩ (l.length-k) (cap-k) E.s cur e (E.all ms) hty.und hsz hh
  (by rw[hal,hmin]) (λ j u hu=>by rw[Ph];exact hcells j u hu) (by rw[hal,<-Qg,hsize];exact hfit) (E.all_oneCell ms)
 rw[hmin]at hrun;refine .val (v:=.int .i64 ((l.length-(k+1):Nat):Int)) (w':=w.setRow gg (cur.toList.take o++E.all ms++cur.toList.drop (o+(E.all ms).length)).toArray) (λ ρ hρ=>?_) (h _ ?_)
 ·have e1:=hρ hx;have e2:=hρ hy;simp only[Ry,BigFrame.builtin_copy];simp only[Qe,P5,QS,e1,e2,ON,hrun,Ox,OR];rfl
 ·rw[<-hms];have hnl:(l.take (k+1)++ms).length=l.length:=by rw[AT,M2,hml];omega
  refine hs.set i hi ⟨J,J,J,by simp,λ q _ hq=>R5 w gg q _ (λ e=>hq (by simp[cL,qO,bz,e]))⟩ ?_ (λ _ hq=>.inl hq);refine⟨E.all_length _,.inr ⟨gg,cap,_,?_,hg0,Ss w gg cur _ e _ hh,by omega,hcm,?_,?_⟩⟩
  ·rw[hnl]
  ·rcases ho with ho|⟨ho1,ho2⟩
   ·subst ho;simp only[QM,AT,M2,OJ,hsize,hal];rw[Pq (Pb (Ri _ _) hmul)];omega
   ·subst ho2;have:(E.all ms).length=0:=by rw[hal,ho1,PX,Rq]
    simp only[QM,AT,M2,OJ,hsize,this];omega
  ·rw[hnl,E.all_append];rcases ho with ho|⟨ho1,ho2⟩
   ·subst ho;have e3:E.all (l.take (k+1))=cur.toList.take ((k+1)*E.s):=by
     rw[<-E.all_take,<-ht,take_take,Pq (PS _ (by omega))]
    rw[e3];have e4:(cur.toList.take ((k+1)*E.s)++E.all ms).length=l.length*E.s:=by
     rw[AT,M2,hal,hsize,Pq (Pb (Ri _ _) hmul),<-Pp];congr 1;omega
    simp only;rw[Qu (by rw[e4];exact KP _),<-e4,P7]
   ·subst ho2;have hm0:ms=[]:=OW (by rw[hml,ho1,PX]);subst hm0;simp only[Enc.all_nil,take_zero,Q6,Oy,PZ,PK,PF];rw[show l.take (k+1)=l from OA (by omega)];exact ht
def JQ{M:List α}{z x:α}{k:Nat}(hk:k<=M.length):(((M++[z]).take (k+1)++((M++[z]).drop k).take ((M++[z]).length-(k+1))).set k x)=M.take k++x::M.drop k:=by
 apply QN;intro i;rw[Q1];have hl:(M++[z]).length=M.length+1:=by simp
 rw[hl];by_cases h:k=i
 ·subst h;rw[Ow J,OU (by simp;omega)];simp only[AT,M2,OJ,hl,M2];rw[Ow (by omega),show k-min k M.length=0 by omega];rfl
 ·rw[OB h];rcases OI i k with q|q
  ·rw[OO (by simp;omega),OO (by simp;omega),Pg,Pg,Ow (by omega),Ow q,OO (by omega)]
  ·have e1:((M++[z]).take (k+1)).length=k+1:=by simp;omega
   have e2:(M.take k).length=k:=by simp;omega
   rw[OU (by omega),OU (by omega),e1,e2,Pg,Q0,show i-k=(i-(k+1))+1 by omega,QH,Q0];split
   ·rw[OO (by omega)]
   ·rw[OX (by omega)]
def Ev.NR{k:IntKind}{x y:Operand}{xt yt:TypeId}{a:Int}{b:Nat}(hx:aH L x=some (.int k a))(hy:aH L y=some (.int k (b:Int)))(hb:0<b):Ev P n L w ⟨d,.binOp .rem xt x y yt,ty,pos,af,g⟩ (.int k (a.tmod (b:Int))):=
 .bin hx hy (Pf ..) λ w=>by
  have h0:(b:Int)≠0:=by omega
  simp only[binOp,Op.intDiv,h0,Py,go_sem];simp[go_sem]
def Gv(x:Int)(n:Nat)(h:0<n): -(n:Int)<x.tmod n/\x.tmod n<n:=by
 have h1:=Int.tmod_lt_of_pos x (show(0:Int)<n by omega);refine⟨?_,h1⟩;have h2:=Int.tmod_lt_of_pos (-x) (show(0:Int)<n by omega);rw[Int.neg_tmod]at h2;omega
end
def mU(T:Nat)(w0:World)(g:Nat):Chunk where
 foot:=[g]
 holds w:=∃ v zs a,RdL w0 v (encI .i64) zs/\zs.length<=120/\a<=zs.length/\w.heap[g]? =some (.cells #[v,.int .i64 ((a:Nat):Int)] T (0,0))
 stable w w' h hc:=by
  obtain⟨v,zs,a,h1,h2,h3,h4⟩:=hc;exact⟨v,zs,a,h1,h2,h3,by rw[h g (by simp)];exact h4⟩
def Sat.imp{w0 w:World}{c d:Chunk}{cs:List Chunk}(h:Sat w0 (c::cs) w)(hf:d.foot=c.foot)(hh:c.holds w->d.holds w):Sat w0 (d::cs) w:=by
 refine⟨h.old,λ e he=>?_,P2.2 ⟨λ e he k hk=>?_,(P2.1 h.apart).2⟩⟩
 ·rcases LD.1 he with rfl|he
  ·have:=h.holds c (by simp);exact⟨hh this.1,by rw[hf];exact this.2⟩
  ·exact h.holds e (by simp[he])
 ·rw[hf]at hk;exact(P2.1 h.apart).1 e he k hk
def Sat.L6{T:Nat}{w0 w:World}{g:Nat}{cs:List Chunk}(h:Sat w0 ([mU T w0 g]++cs) w):∃ v zs a,RdL w0 v (encI .i64) zs/\zs.length<=120/\a<=zs.length/\Sat w0 ([aw g T [v,.int .i64 ((a:Nat):Int)]]++cs) w:=by
 obtain⟨v,zs,a,h1,h2,h3,h4⟩:=(h.holds (mU T w0 g) (by simp)).1;exact⟨v,zs,a,h1,h2,h3,Sat.imp h J λ _=>h4⟩
def Sat.uc{T:Nat}{w0 w:World}{g:Nat}{cs:List Chunk}{v:Value}{zs:List Int}{a:Nat}(h:Sat w0 ([aw g T [v,.int .i64 ((a:Nat):Int)]]++cs) w)(h1:RdL w0 v (encI .i64) zs)(h2:zs.length<=120)(h3:a<=zs.length):Sat w0 ([mU T w0 g]++cs) w:=
 Sat.imp h J λ h4=>⟨v,zs,a,h1,h2,h3,h4⟩
def Dm:Enc Unit:=⟨0,λ _=>[],λ _=>J,λ x u h=>by cases h⟩
def Dp(l:List Unit):Dm.all l=[]:=by
 induction l with
 |nil=>rfl
 |cons x r ih=>rw[Enc.all_cons,ih];rfl
theorem RdL.sz{α:Type}{E:Enc α}{w w':World}{v:Value}{l:List α}(h:RdL w v E l):RdL w' v Dm (List.replicate l.length ()):=by
 obtain⟨a,cap,rfl,hn,_⟩:=h;exact⟨a,cap,by rw[PW],by rw[PW];exact hn,λ j u hu=>by rw[Dp]at hu;cases hu⟩
