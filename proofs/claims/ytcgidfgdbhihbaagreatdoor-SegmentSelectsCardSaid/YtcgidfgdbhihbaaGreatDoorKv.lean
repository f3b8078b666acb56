/-
 KV:arrays of four bytes:read out of a slice,compared. Our own text;it names no program.
-/
import Derived.Test.YtcgidfgdbhihbaaGreatDoorKc
open List renaming length→I
set_option linter.all false
open Go.Proofs.YtcgidfgdbhihbaaGreatDoor
open List
namespace Go.Kw
open Go.RowKit
section
variable {P:Program} {n:Nat} {L:aA} {w w0:World} {d:Option Nat} {x y:Operand} {xt yt ty t e:TypeId} {pos:String} {af:Array Edge} {g:Option (Nat×Bool)}
def JI(P:Program)(t:TypeId):Bool:=
 match P.underlying t with
 |some (.array 4 e)=>(match P.underlying e with|some (.int _)=>true|_=>false)&&(match P.info? e with|some i=>i.size==1|none=>false)&& !P.eqGuardType P.depth t
 |_=>false
def D4(e:TypeId)(k:IntKind)(a b:Int)(h:∃ K,P.underlying e=some (.int K))(d:Nat)(w:World):(Op.equalIn (d+1) e (.int k a) (.int k b)).run P w= .ok (a==b) w:=by
 obtain⟨K,h⟩:=h;simp[Op.equalIn,Xy h]
def JJ(ht:P.underlying t=some (.array 4 e))(he:∃ k',P.underlying e=some (.int k'))(r:∃ i,P.info? e=some i/\i.size=1)(k:IntKind)(a0 A g l b0 b1 b2 b3:Int)(w:World):
  (Op.equal t (.agg #[.int k a0,.int k A,.int k g,.int k l]) (.agg #[.int k b0,.int k b1,.int k b2,.int k b3])).run P w= .ok (a0==b0&&(A==b1&&(g==b2&&l==b3))) w:=by
 obtain⟨i,N,Q⟩:=r;obtain⟨ki,H⟩:=he;have o:=λ(a b:Int) d w=>D4 e k a b ⟨ki,H⟩ d w;have:∀ d,(Op.equalIn (d+2) t (.agg #[.int k a0,.int k A,.int k g,.int k l]) (.agg #[.int k b0,.int k b1,.int k b2,.int k b3])).run P w= .ok (a0==b0&&(A==b1&&(g==b2&&l==b3))) w:=λ d=>by
  rw[Op.equalIn];simp[Xy ht,sizeOf,typeInfo,N,Q];have p:∀ (q:Array Value) (j:Nat) (K:IntKind) (z:Int) (w:World),q[j]? =some (.int K z)->(part e q j).run P w= .ok (.int K z) w:=λ q j K z w hz=>by
   simp[part,isAgg,Xy H,sizeOf,typeInfo,N,Q,hz]
  rw[show List.range' 0 4=[0,1,2,3]from Y];have R:=λ w=>p #[.int k a0,.int k A,.int k g,.int k l] 0 k a0 w Y;have B0:=λ w=>p #[.int k b0,.int k b1,.int k b2,.int k b3] 0 k b0 w Y;have T:=λ w=>p #[.int k a0,.int k A,.int k g,.int k l] 1 k A w Y;have B1:=λ w=>p #[.int k b0,.int k b1,.int k b2,.int k b3] 1 k b1 w Y;have W:=λ w=>p #[.int k a0,.int k A,.int k g,.int k l] 2 k g w Y;have B2:=λ w=>p #[.int k b0,.int k b1,.int k b2,.int k b3] 2 k b2 w Y;have X:=λ w=>p #[.int k a0,.int k A,.int k g,.int k l] 3 k l w Y;have B3:=λ w=>p #[.int k b0,.int k b1,.int k b2,.int k b3] 3 k b3 w Y;simp only[forIn_cons,forIn_nil,XC,R,B0,o,Xw];by_cases u:(a0==b0)=true
  ·simp only[u,a1e,a2a,Yy,XG,Xw,forIn_cons,XC,T,B1,o];by_cases y:(A==b1)=true
   ·simp only[y,a1e,a2a,Yy,XG,Xw,forIn_cons,XC,W,B2,o];by_cases D:(g==b2)=true
    ·simp only[D,a1e,a2a,Yy,XG,Xw,forIn_cons,forIn_nil,XC,X,B3,o];by_cases E:(l==b3)=true
     ·simp[E]
     ·simp[E]
    ·simp[D]
   ·simp[y]
  ·simp[u]
 exact this 9998
def D5:Value->Value
 | .slice a _ _=>.pointer a
 |_=>undef
variable {α:Type} {E:Enc α}
def Ev.Mg{T:TypeId}{v:Value}{l:List α}{m:Nat}(H:P.underlying T=some (.array m e))(i:aM L x=some v)(h:RdL w v E l)(o:m<=I l):Ev P n L w ⟨d,.sliceToArrayPointer T x,ty,pos,af,g⟩ (D5 v):=.of λ ρ j=>by
 obtain⟨A,p,rfl,_,k⟩:=h;have:¬ I l<m:=O
 simp only[execOp,j i,Instr.arrayAt];simp[Xy H,this,D5,go_sem]
def Ev.Mj{T:TypeId}{v:Value}{l:List α}{m:Nat}(H:dF P T m=true)(hx:aM L x=some (D5 v))(h:RdL w v E l)(X:I l*E.s=m)(hp:0<m):Ev P n L w ⟨d,.load T x,ty,pos,af,g⟩ (.agg (E.all l).toArray):=.of λ ρ hρ=>by
 obtain⟨ad,R,rfl,_,N⟩:=h;have k:I (E.all l)=m:=by rw[E.all_length];exact X
 obtain⟨u0,y⟩:∃ u,(E.all l)[0]? =some u:=⟨_,py O⟩;obtain⟨K,o,rfl,_⟩:=N 0 u0 y;have A:ρ x= .pointer (some ⟨K,o,none⟩):=by rw[hρ hx];rfl
 have Q:=Ze (P:=P) w ⟨K,o,none⟩ (E.all l) (λ q u hu=>by
  obtain⟨b2,o2,W,hw⟩:=N q u hu;cases W;rw[Yg];exact hw)
 rw[k]at Q;have p:(isAgg T).run P w= .ok true w:=by
  unfold dF at H;cases j:P.underlying T with
  |none=>simp[j]at H
  |some D=>cases D<;>simp[j]at H<;>simp[isAgg,Xy j,go_sem]
 have t:(sizeOf T).run P w= .ok m w:=by
  unfold dF at H;cases i:P.info? T with
  |none=>simp[i]at H
  |some a0=>simp[i]at H;simp[sizeOf,typeInfo,i,H.2,go_sem]
 have r:(Instr.loadAt T (ρ x)).run P w= .ok (.agg (E.all l).toArray) w:=by
  simp only[Instr.loadAt,loadVar,A,Instr.sureAddr,XC,XG,Xw,p,t,Q,Z7]
 simp only[execOp,XC,r,Xw,XG]
def En{α:Type}{l:List α}(h:I l=4):∃ a b c d,l=[a,b,c,d]:=by
 match l,h with
 |[a,b,c,d],_=>exact⟨a,b,c,d,Y⟩
def Ev.zm{k:IntKind}{a b:List Nat}(T:JI P t=true)(ha:I a=4)(hb:I b=4)(hx:aM L x=some (.agg ((a7 k).all a).toArray))(hy:aM L y=some (.agg ((a7 k).all b).toArray)):
  Ev P n L w ⟨d,.binOp .neq t x y xt,ty,pos,af,g⟩ (.bool (decide (a≠b))):=.of λ ρ W=>by
 obtain⟨A,p,q,r,rfl⟩:=En ha;obtain⟨b0,E,K,N,rfl⟩:=En hb;unfold JI at T;split at T
 ·rename_i e hu
  simp only[Xz,a1d]at T;obtain⟨⟨Q,R⟩,h3⟩:=T;have he:∃ k',P.underlying e=some (.int k'):=by
   cases j:P.underlying e with
   |none=>rw[j]at Q;cases Q
   |some D=>cases D<;>rw[j]at Q<;>first|exact⟨_,Y⟩|cases Q
  have hi:∃ i,P.info? e=some i/\i.size=1:=by
   cases H:P.info? e with
   |none=>rw[H]at R;cases R
   |some i=>rw[H]at R;exact⟨i,Y,by simpa using R⟩
  have hq:=JJ hu he hi k (A:Int) p q r b0 E K N w;have ex:∀ X q1 q2 q3:Nat,((a7 k).all [X,q1,q2,q3]).toArray= #[.int k (X:Int),.int k (q1:Int),.int k (q2:Int),.int k (q3:Int)]:=λ _ _ _ _=>Y;have l:=W hx;have o:=W hy;rw[ex]at l o;have hd:(!((A:Int)==(b0:Int)&&((p:Int)==(E:Int)&&((q:Int)==(K:Int)&&(r:Int)==(N:Int)))))=decide ([A,p,q,r]≠[b0,E,K,N]):=by
   have c:∀ u v:Nat,((u:Int)==(v:Int))=decide (u=v):=λ u v=>by
    by_cases e:u=v
    ·simp[e]
    ·have:¬ (u:Int)=(v:Int):=O
     simp[e,this]
   rw[c,c,c,c];by_cases e0:A=b0<;>by_cases e1:p=E<;>by_cases e2:q=K<;>by_cases e3:r=N<;>simp[e0,e1,e2,e3]
  simp only[execOp,l,o,eqGuard,binOp];simp[h3,hq,hd,go_sem]
 ·cases T
end
