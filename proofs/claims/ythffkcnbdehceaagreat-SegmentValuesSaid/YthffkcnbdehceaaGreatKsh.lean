/-
 KSH:elements moved up within a row (copy(m[k+1:],m[k:]));remainders of any number;a tape of numbers. Our own text;it names no program.
-/
import Derived.Test.YthffkcnbdehceaaGreatKb
set_option linter.all false
open Go.Proofs.YthffkcnbdehceaaGreat
open List
namespace Go.Kw
open Go.RowKit
section
variable {P:Program} {n:Nat} {L:aA} {w w0:World} {cs:List Chunk} {K:Value->World->Prop} {d:Option Nat} {ty:TypeId} {pos:String} {af:Array Edge} {g:Option (Nat×Bool)} {α:Type} {E:Enc α}
def tQ(w:World)(dT sT ty elem:TypeId)(g o dLen dCap:Nat)(a:Addr)(sLen sCap m:Nat)(cur:Array Value)(t:TypeId)(cs:List Value)
  (hu:P.underlying dT=some (.slice elem)) (hs:(P.info? elem).map (·.size)=some m)
  (hg:w.heap[g]? =some (.cells cur t (0,0))) (hn:cs.length=Nat.min sLen dLen*m)
  (hsrc:∀ j v,cs[j]? =some v->w.cell? (a.add j)=some v) (hfit:o+cs.length<=cur.size) (h1:∀ v∈cs,v.oneCell'=true):
  (Builtin.copy_ #[dT,sT] ty #[.slice (some ⟨g,o,none⟩) dLen dCap,.slice (some a) sLen sCap]).run P w=
   .ok (goInt ((Nat.min sLen dLen:Nat):Int)) (w.setRow g (cur.toList.take o++cs++cur.toList.drop (o+cs.length)).toArray):=by
 have hl:=TO (P:=P) w a cs hsrc;have hst:=UW P g o t cs 0 cur w hg (by simpa using hfit) h1;cases hq:P.info? elem with
 |none=>simp[hq]at hs
 |some i=>
  have hi:i.size=m:=by simpa[hq]using hs
  rw[hn]at hl;simp[Builtin.copy_,Rt hu,Builtin.lenOf,Builtin.firstCells,sizeOf,typeInfo,hq,hi,hl,hst]
def OpE.Oz{x y:Operand}{t tx e b k:Nat}{z v:Value}{l:List α}(i:Nat)(hty:SlTy P t e E.s z b)(hs:Sat w0 cs w)(hi:cs[i]? =some (cL v e E l))(hx:aJ L x=some (fM E.s v (k+1) l.length))(hy:aJ L y=some (fM E.s v k l.length))
  (hk:k<l.length) (h:∀ w',Sat w0 (cs.set i (cL v e E (l.take (k+1)++(l.drop k).take (l.length-(k+1))))) w'->K (.int .i64 ((l.length-(k+1):Nat):Int)) w'):
  OpE P n L w ⟨d,.call ⟨.builtin .copy,#[x,y],#[t,tx]⟩,ty,pos,af,g⟩ K:=by
 obtain⟨inf,i1,i2,i3,i4⟩:=hty.info;have hsz:(P.info? e).map (·.size)=some E.s:=by rw[i1];simp[i3]
 have hown:=hs.get hi;obtain⟨hlen,⟨rfl,hl0⟩|⟨gg,cap,cur,rfl,hg0,hh,hnc,hcm,hcs,ht⟩⟩:=hown
 ·omega
 obtain⟨ms,hms⟩:∃ ms,ms=(l.drop k).take (l.length-(k+1)):=⟨_,Y⟩;have hml:ms.length=l.length-(k+1):=by rw[hms];simp;omega
 have hcells:∀ j u,(E.all ms)[j]? =some u->w.cell? ⟨gg,k*E.s+j,none⟩=some u:=λ j u hu=>by
  rw[cell_of_heap hh];have e1:(E.all l).drop (k*E.s)=E.all (l.drop k):=E.all_drop l k;have e2:(E.all (l.drop k)).take ((l.length-(k+1))*E.s)=E.all ms:=by rw[hms];exact E.all_take _ _
  rw[<-e2,<-e1,SG]at hu;split at hu
  ·rw[SZ,<-ht,SG]at hu;split at hu
   ·simpa using hu
   ·cases hu
  ·cases hu
 have hdst:∃ o,fM E.s (.slice (some ⟨gg,0,none⟩) l.length cap) (k+1) l.length= .slice (some ⟨gg,o,none⟩) (l.length-(k+1)) (cap-(k+1))/\((o=(k+1)*E.s)\/(l.length=k+1/\o=0)):=by
  by_cases hc:cap=k+1
  ·exact⟨0,by simp only[fM];rw[No hc],.inr ⟨by omega,Y⟩⟩
  ·exact⟨(k+1)*E.s,by simp only[fM];rw[M2 hc];simp only[T9,Sz,RX],.inl Y⟩
 obtain⟨o,hd,ho⟩:=hdst;have hsrc:fM E.s (.slice (some ⟨gg,0,none⟩) l.length cap) k l.length= .slice (some ⟨gg,k*E.s,none⟩) (l.length-k) (cap-k):=by
  simp only[fM];rw[M2 (by omega)];simp only[T9,Sz,RX]
 rw[hd]at hx;rw[hsrc]at hy;have hmin:Nat.min (l.length-k) (l.length-(k+1))=l.length-(k+1):=Vx (by omega);have hal:(E.all ms).length=(l.length-(k+1))*E.s:=by rw[E.all_length,hml]
 have hsize:cur.toList.length=cap*E.s:=by simpa using hcs
 have hmul:(k+1)*E.s+(l.length-(k+1))*E.s<=cap*E.s:=by rw[<-Sp];exact SY _ (by omega)
 have hfit:o+(l.length-(k+1))*E.s<=cap*E.s:=by
  rcases ho with ho|⟨ho1,ho2⟩
  ·subst ho;exact hmul
  ·subst ho2;rw[ho1,Se,UF];omega
 have hrun:=tQ (P:=P) w t tx ty e gg o (l.length-(k+1)) (cap-(k+1)) ⟨gg,k*E.s,none⟩ (l.length-k) (cap-k) E.s cur e (E.all ms) hty.und hsz hh
  (by rw[hal,hmin]) (λ j u hu=>by rw[Sz];exact hcells j u hu) (by rw[hal,<-T4,hsize];exact hfit) (E.all_oneCell ms)
 rw[hmin]at hrun;refine .val (v:=.int .i64 ((l.length-(k+1):Nat):Int)) (w':=w.setRow gg (cur.toList.take o++E.all ms++cur.toList.drop (o+(E.all ms).length)).toArray) (λ ρ hρ=>?_) (h _ ?_)
 ·have e1:=hρ hx;have e2:=hρ hy;simp only[Uq,BigFrame.builtin_copy];simp only[TM,Sg,U3,e1,e2,RA,hrun,Rs,RJ];rfl
 ·rw[<-hms];have hnl:(l.take (k+1)++ms).length=l.length:=by rw[sp,KW,hml];omega
  refine hs.set i hi ⟨Y,Y,Y,by simp,λ q _ hq=>Uf w gg q _ (λ e=>hq (by simp[cL,pV,bT,e]))⟩ ?_ (λ _ hq=>.inl hq);refine⟨E.all_length _,.inr ⟨gg,cap,_,?_,hg0,Vk w gg cur _ e _ hh,by omega,hcm,?_,?_⟩⟩
  ·rw[hnl]
  ·rcases ho with ho|⟨ho1,ho2⟩
   ·subst ho;simp only[U6,sp,KW,Ry,hsize,hal];rw[Sr (RV (Vy _ _) hmul)];omega
   ·subst ho2;have:(E.all ms).length=0:=by rw[hal,ho1,Se,UF]
    simp only[U6,sp,KW,Ry,hsize,this];omega
  ·rw[hnl,E.all_append];rcases ho with ho|⟨ho1,ho2⟩
   ·subst ho;have e3:E.all (l.take (k+1))=cur.toList.take ((k+1)*E.s):=by
     rw[<-E.all_take,<-ht,take_take,Sr (SY _ (by omega))]
    rw[e3];have e4:(cur.toList.take ((k+1)*E.s)++E.all ms).length=l.length*E.s:=by
     rw[sp,KW,hal,hsize,Sr (RV (Vy _ _) hmul),<-Sp];congr 1;omega
    simp only;rw[take_append_of_le_length (by rw[e4];exact KD _),<-e4,RD]
   ·subst ho2;have hm0:ms=[]:=RM (by rw[hml,ho1,Se]);subst hm0;simp only[Enc.all_nil,VN,Tj,Rp,T7,Tm,SO];rw[show l.take (k+1)=l from Ru (by omega)];exact ht
def Nr{M:List α}{z x:α}{k:Nat}(hk:k<=M.length):(((M++[z]).take (k+1)++((M++[z]).drop k).take ((M++[z]).length-(k+1))).set k x)=M.take k++x::M.drop k:=by
 apply TL;intro i;rw[T8];have hl:(M++[z]).length=M.length+1:=by simp
 rw[hl];by_cases h:k=i
 ·subst h;rw[No Y,RO (by simp;omega)];simp only[sp,KW,Ry,hl,KW];rw[No (by omega),show k-min k M.length=0 by omega];rfl
 ·rw[M2 h];rcases RG i k with q|q
  ·rw[RH (by simp;omega),RH (by simp;omega),SG,SG,No (by omega),No q,RH (by omega)]
  ·have e1:((M++[z]).take (k+1)).length=k+1:=by simp;omega
   have e2:(M.take k).length=k:=by simp;omega
   rw[RO (by omega),RO (by omega),e1,e2,SG,SZ,show i-k=(i-(k+1))+1 by omega,U8,SZ];split
   ·rw[RH (by omega)]
   ·rw[RN (by omega)]
def Ev.R6{k:IntKind}{x y:Operand}{xt yt:TypeId}{a:Int}{b:Nat}(hx:aJ L x=some (.int k a))(hy:aJ L y=some (.int k (b:Int)))(hb:0<b):Ev P n L w ⟨d,.binOp .rem xt x y yt,ty,pos,af,g⟩ (.int k (a.tmod (b:Int))):=
 .bin hx hy (Sq ..) λ w=>by
  have h0:(b:Int)≠0:=by omega
  simp only[binOp,Op.intDiv,h0,SX,go_sem];simp[go_sem]
def Ks(x:Int)(n:Nat)(h:0<n): -(n:Int)<x.tmod n/\x.tmod n<n:=by
 have h1:=Int.tmod_lt_of_pos x (show(0:Int)<n by omega);refine⟨?_,h1⟩;have h2:=Int.tmod_lt_of_pos (-x) (show(0:Int)<n by omega);rw[Int.neg_tmod]at h2;omega
end
def rS(T:Nat)(w0:World)(g:Nat):Chunk where
 foot:=[g]
 holds w:=∃ v zs a,RdL w0 v (encI .i64) zs/\zs.length<=120/\a<=zs.length/\w.heap[g]? =some (.cells #[v,.int .i64 ((a:Nat):Int)] T (0,0))
 stable w w' h hc:=by
  obtain⟨v,zs,a,h1,h2,h3,h4⟩:=hc;exact⟨v,zs,a,h1,h2,h3,by rw[h g (by simp)];exact h4⟩
def Sat.imp{w0 w:World}{c d:Chunk}{cs:List Chunk}(h:Sat w0 (c::cs) w)(hf:d.foot=c.foot)(hh:c.holds w->d.holds w):Sat w0 (d::cs) w:=by
 refine⟨h.old,λ e he=>?_,Sb.2 ⟨λ e he k hk=>?_,(Sb.1 h.apart).2⟩⟩
 ·rcases Rx.1 he with rfl|he
  ·have:=h.holds c (by simp);exact⟨hh this.1,by rw[hf];exact this.2⟩
  ·exact h.holds e (by simp[he])
 ·rw[hf]at hk;exact(Sb.1 h.apart).1 e he k hk
def Sat.OF{T:Nat}{w0 w:World}{g:Nat}{cs:List Chunk}(h:Sat w0 ([rS T w0 g]++cs) w):∃ v zs a,RdL w0 v (encI .i64) zs/\zs.length<=120/\a<=zs.length/\Sat w0 ([aq g T [v,.int .i64 ((a:Nat):Int)]]++cs) w:=by
 obtain⟨v,zs,a,h1,h2,h3,h4⟩:=(h.holds (rS T w0 g) (by simp)).1;exact⟨v,zs,a,h1,h2,h3,Sat.imp h Y λ _=>h4⟩
def Sat.xI{T:Nat}{w0 w:World}{g:Nat}{cs:List Chunk}{v:Value}{zs:List Int}{a:Nat}(h:Sat w0 ([aq g T [v,.int .i64 ((a:Nat):Int)]]++cs) w)(h1:RdL w0 v (encI .i64) zs)(h2:zs.length<=120)(h3:a<=zs.length):Sat w0 ([rS T w0 g]++cs) w:=
 Sat.imp h Y λ h4=>⟨v,zs,a,h1,h2,h3,h4⟩
def H3:Enc Unit:=⟨0,λ _=>[],λ _=>Y,λ x u h=>by cases h⟩
def H4(l:List Unit):H3.all l=[]:=by
 induction l with
 |nil=>rfl
 |cons x r ih=>rw[Enc.all_cons,ih];rfl
theorem RdL.sz{α:Type}{E:Enc α}{w w':World}{v:Value}{l:List α}(h:RdL w v E l):RdL w' v H3 (List.replicate l.length ()):=by
 obtain⟨a,cap,rfl,hn,_⟩:=h;exact⟨a,cap,by rw[Tz],by rw[Tz];exact hn,λ j u hu=>by rw[H4]at hu;cases hu⟩
