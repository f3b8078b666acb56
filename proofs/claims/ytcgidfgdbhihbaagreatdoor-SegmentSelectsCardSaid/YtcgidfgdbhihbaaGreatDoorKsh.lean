/-
 KSH:elements moved up within a row (copy(m[k+1:],m[k:]));remainders of any number;a tape of numbers. Our own text;it names no program.
-/
import Derived.Test.YtcgidfgdbhihbaaGreatDoorKc
open List renaming length→I,take→J,drop→ww
set_option linter.all false
open Go.Proofs.YtcgidfgdbhihbaaGreatDoor
open List hiding any
namespace Go.Kw
open Go.RowKit
section
variable {P:Program} {n:Nat} {L:aA} {w w0:World} {cs:List Chunk} {K:Value->World->Prop} {d:Option Nat} {ty:TypeId} {pos:String} {af:Array Edge} {g:Option (Nat×Bool)} {α:Type} {E:Enc α}
def vR(w:World)(T R ty elem:TypeId)(g o d p:Nat)(a:Addr)(k q m:Nat)(r:Array Value)(t:TypeId)(cs:List Value)
  (Q:P.underlying T=some (.slice elem)) (D:(P.info? elem).map (·.size)=some m)
  (E:w.heap[g]? =some (.cells r t (0,0))) (N:I cs=Nat.min k d*m)
  (l:∀ j v,cs[j]? =some v->w.cell? (a.add j)=some v) (H:o+I cs<=r.size) (h1:∀ v∈cs,v.oneCell'=true):
  (Builtin.copy_ #[T,R] ty #[.slice (some ⟨g,o,none⟩) d p,.slice (some a) k q]).run P w=
   .ok (goInt ((Nat.min k d:Nat):Int)) (w.setRow g (J o r.toList++cs++ww (o+I cs) r.toList).toArray):=by
 have A:=Ze (P:=P) w a cs l;have y:=a1i P g o t cs 0 r w E te h1;cases u:P.info? elem with
 |none=>simp[u]at D
 |some i=>
  have K:i.size=m:=by simpa[u]using D
  rw[N]at A;simp[Builtin.copy_,Xy Q,Builtin.lenOf,Builtin.firstCells,sizeOf,typeInfo,u,K,A,y]
def OpE.U8{x y:Operand}{t tx e b k:Nat}{z v:Value}{l:List α}(i:Nat)(b1:SlTy P t e E.s z b)(hs:Sat w0 cs w)(hi:cs[i]? =some (cL v e E l))(hx:aM L x=some (gL E.s v (k+1) (I l)))(hy:aM L y=some (gL E.s v k (I l)))
  (hk:k<I l) (h:∀ w',Sat w0 (cs.set i (cL v e E (J (k+1) l++J (I l-(k+1)) (ww k l)))) w'->K (.int .i64 ((I l-(k+1):Nat):Int)) w'):
  OpE P n L w ⟨d,.call ⟨.builtin .copy,#[x,y],#[t,tx]⟩,ty,pos,af,g⟩ K:=by
 obtain⟨c2,i1,i2,i3,i4⟩:=b1.info;have b6:(P.info? e).map (·.size)=some E.s:=by rw[i1];simp[i3]
 have a6:=hs.get hi;obtain⟨b7,⟨rfl,c0⟩|⟨D,p,r,rfl,b4,hh,c1,b2,b3,ht⟩⟩:=a6
 ·omega
 obtain⟨A,a2⟩:∃ A,A=J (I l-(k+1)) (ww k l):=⟨_,Y⟩;have a1:I A=I l-(k+1):=by rw[a2];simp;omega
 have R:∀ j u,(E.all A)[j]? =some u->w.cell? ⟨D,k*E.s+j,none⟩=some u:=λ j u W=>by
  rw[cell_of_heap hh];have e1:ww (k*E.s) (E.all l)=E.all (ww k l):=E.all_drop l k;have e2:J ((I l-(k+1))*E.s) (E.all (ww k l))=E.all A:=by rw[a2];exact E.all_take _ _
  rw[<-e2,<-e1,Yu]at W;split at W
  ·rw[YI,<-ht,Yu]at W;split at W
   ·simpa using W
   ·cases W
  ·cases W
 have a3:∃ o,gL E.s (.slice (some ⟨D,0,none⟩) (I l) p) (k+1) (I l)= .slice (some ⟨D,o,none⟩) (I l-(k+1)) (p-(k+1))/\((o=(k+1)*E.s)\/(I l=k+1/\o=0)):=by
  by_cases hc:p=k+1
  ·exact⟨0,by simp only[gL];rw[Xp hc],.inr ⟨O,Y⟩⟩
  ·exact⟨(k+1)*E.s,by simp only[gL];rw[Xn hc];simp only[Z6,Yg,XU],.inl Y⟩
 obtain⟨o,hd,T⟩:=a3;have a9:gL E.s (.slice (some ⟨D,0,none⟩) (I l) p) k (I l)= .slice (some ⟨D,k*E.s,none⟩) (I l-k) (p-k):=by
  simp only[gL];rw[Xn O];simp only[Z6,Yg,XU]
 rw[hd]at hx;rw[a9]at hy;have X:Nat.min (I l-k) (I l-(k+1))=I l-(k+1):=a2f O;have N:I (E.all A)=(I l-(k+1))*E.s:=by rw[E.all_length,a1]
 have H:I r.toList=p*E.s:=by simpa using b3
 have Q:(k+1)*E.s+(I l-(k+1))*E.s<=p*E.s:=by rw[<-Yc];exact YH _ O
 have a4:o+(I l-(k+1))*E.s<=p*E.s:=by
  rcases T with T|⟨ho1,ho2⟩
  ·subst T;exact Q
  ·subst ho2;rw[ho1,Y4,a0z];omega
 have a0:=vR (P:=P) w t tx ty e D o (I l-(k+1)) (p-(k+1)) ⟨D,k*E.s,none⟩ (I l-k) (p-k) E.s r e (E.all A) b1.und b6 hh
  (by rw[N,X]) (λ j u W=>by rw[Yg];exact R j u W) (by rw[N,<-YL,H];exact a4) (E.all_oneCell A)
 rw[X]at a0;refine .val (v:=.int .i64 ((I l-(k+1):Nat):Int)) (w':=w.setRow D (J o r.toList++E.all A++ww (o+I (E.all A)) r.toList).toArray) (λ ρ hρ=>?_) (h _ ?_)
 ·have e1:=hρ hx;have e2:=hρ hy;simp only[a0k,BigFrame.builtin_copy];simp only[Zk,XZ,Zy,e1,e2,XC,a0,Xw,XG];rfl
 ·rw[<-a2];have a5:I (J (k+1) l++A)=I l:=by rw[AT,Xo,a1];omega
  refine hs.set i hi ⟨Y,Y,Y,bw,λ q _ hq=>a0e w D q _ (λ e=>hq a4c)⟩ ?_ (λ _ hq=>.inl hq);refine⟨E.all_length _,.inr ⟨D,p,_,?_,b4,a16 w D r _ e _ hh,O,b2,?_,?_⟩⟩
  ·rw[a5]
  ·rcases T with T|⟨ho1,ho2⟩
   ·subst T;simp only[ZW,AT,Xo,XD,H,N];rw[Y5 (XL (a2g _ _) Q)];omega
   ·subst ho2;have:I (E.all A)=0:=by rw[N,ho1,Y4,a0z]
    simp only[ZW,AT,Xo,XD,H,this];omega
  ·rw[a5,E.all_append];rcases T with T|⟨ho1,ho2⟩
   ·subst T;have e3:E.all (J (k+1) l)=J ((k+1)*E.s) r.toList:=by
     rw[<-E.all_take,<-ht,take_take,Y5 (YH _ O)]
    rw[e3];have e4:I (J ((k+1)*E.s) r.toList++E.all A)=I l*E.s:=by
     rw[AT,Xo,N,H,Y5 (XL (a2g _ _) Q),<-Yc];congr 1;omega
    simp only;rw[take_append_of_le_length (by rw[e4];exact KM _),<-e4,XH]
   ·subst ho2;have b5:A=[]:=XM (by rw[a1,ho1,Y4]);subst b5;simp only[Enc.all_nil,a2u,YW,Xv,YP,YR,Yr];rw[show J (k+1) l=l from Xx O];exact ht
def RO{M:List α}{z x:α}{k:Nat}(H:k<=I M):((J (k+1) (M++[z])++J (I (M++[z])-(k+1)) (ww k (M++[z]))).set k x)=J k M++x::ww k M:=by
 apply ZC;intro i;rw[YQ];have l:I (M++[z])=I M+1:=bw
 rw[l];by_cases h:k=i
 ·subst h;rw[Xp Y,XP cf];simp only[AT,Xo,XD,l,Xo];rw[Xp O,show k-min k (I M)=0 by omega];rfl
 ·rw[Xn h];rcases XI i k with q|q
  ·rw[XK cf,XK cf,Yu,Yu,Xp O,Xp q,XK O]
  ·have E:I (J (k+1) (M++[z]))=k+1:=by simp;omega
   have d:I (J k M)=k:=by simp;omega
   rw[XP O,XP O,E,d,Yu,YI,show i-k=(i-(k+1))+1 by omega,ZX,YI];split
   ·rw[XK O]
   ·rw[XQ O]
def Ev.WX{k:IntKind}{x y:Operand}{xt yt:TypeId}{a:Int}{b:Nat}(i:aM L x=some (.int k a))(j:aM L y=some (.int k (b:Int)))(l:0<b):Ev P n L w ⟨d,.binOp .rem xt x y yt,ty,pos,af,g⟩ (.int k (a.tmod (b:Int))):=
 .bin i j (Yd ..) λ w=>by
  have H:(b:Int)≠0:=O
  simp only[binOp,Op.intDiv,H,Yy,go_sem];simp[go_sem]
def O8(x:Int)(n:Nat)(h:0<n): -(n:Int)<x.tmod n/\x.tmod n<n:=by
 have H:=Int.tmod_lt_of_pos x (show(0:Int)<n by omega);refine⟨?_,H⟩;have d:=Int.tmod_lt_of_pos (-x) (show(0:Int)<n by omega);rw[Int.neg_tmod]at d;omega
end
def jq(T:Nat)(w0:World)(g:Nat):Chunk where
 foot:=[g]
 holds w:=∃ v d a,RdL w0 v (encI .i64) d/\I d<=120/\a<=I d/\w.heap[g]? =some (.cells #[v,.int .i64 ((a:Nat):Int)] T (0,0))
 stable w w' h hc:=by
  obtain⟨v,d,a,H,i,j,k⟩:=hc;exact⟨v,d,a,H,i,j,by rw[h g bw];exact k⟩
def Sat.imp{w0 w:World}{c d:Chunk}{cs:List Chunk}(h:Sat w0 (c::cs) w)(H:d.foot=c.foot)(i:c.holds w->d.holds w):Sat w0 (d::cs) w:=by
 refine⟨h.old,λ e he=>?_,XY.2 ⟨λ e he k g=>?_,(XY.1 h.apart).2⟩⟩
 ·rcases Xr.1 he with rfl|he
  ·have:=h.holds c bw;exact⟨i this.1,by rw[H];exact this.2⟩
  ·exact h.holds e a3b
 ·rw[H]at g;exact(XY.1 h.apart).1 e he k g
def Sat.U5{T:Nat}{w0 w:World}{g:Nat}{cs:List Chunk}(h:Sat w0 ([jq T w0 g]++cs) w):∃ v d a,RdL w0 v (encI .i64) d/\I d<=120/\a<=I d/\Sat w0 ([ai g T [v,.int .i64 ((a:Nat):Int)]]++cs) w:=by
 obtain⟨v,d,a,H,i,j,k⟩:=(h.holds (jq T w0 g) bw).1;exact⟨v,d,a,H,i,j,Sat.imp h Y λ _=>k⟩
def Sat.zk{T:Nat}{w0 w:World}{g:Nat}{cs:List Chunk}{v:Value}{d:List Int}{a:Nat}(h:Sat w0 ([ai g T [v,.int .i64 ((a:Nat):Int)]]++cs) w)(h1:RdL w0 v (encI .i64) d)(h2:I d<=120)(H:a<=I d):Sat w0 ([jq T w0 g]++cs) w:=
 Sat.imp h Y λ i=>⟨v,d,a,h1,h2,H,i⟩
def JG:Enc Unit:=⟨0,λ _=>[],λ _=>Y,λ x u h=>by cases h⟩
def JH(l:List Unit):JG.all l=[]:=by
 induction l with
 |nil=>rfl
 |cons x r i=>rw[Enc.all_cons,i];rfl
theorem RdL.sz{α:Type}{E:Enc α}{w w':World}{v:Value}{l:List α}(h:RdL w v E l):RdL w' v JG (List.replicate (I l) ()):=by
 obtain⟨a,p,rfl,d,_⟩:=h;exact⟨a,p,by rw[Zf],by rw[Zf];exact d,λ j u H=>by rw[JH]at H;cases H⟩
