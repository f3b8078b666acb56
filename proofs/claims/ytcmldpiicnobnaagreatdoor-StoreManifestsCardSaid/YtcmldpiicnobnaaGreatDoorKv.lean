/-
 KV:arrays of four bytes:read out of a slice,compared. Our own text;it names no program.
-/
import Derived.Test.YtcmldpiicnobnaaGreatDoorM13
set_option linter.all false
open Go.Proofs.YtcmldpiicnobnaaGreatDoor
open List
namespace Go.Kw
open Go.RowKit
section
variable {P:Program} {n:Nat} {L:aA} {w w0:World} {d:Option Nat} {x y:Operand} {xt yt ty t e:TypeId} {pos:String} {af:Array Edge} {g:Option (Nat×Bool)}
def Dq(P:Program)(t:TypeId):Bool:=
 match P.underlying t with
 |some (.array 4 e)=>(match P.underlying e with|some (.int _)=>true|_=>false)&&(match P.info? e with|some i=>i.size==1|none=>false)&& !P.eqGuardType P.depth t
 |_=>false
def xM(e:TypeId)(k:IntKind)(a b:Int)(h:∃ k',P.underlying e=some (.int k'))(d:Nat)(w:World):(Op.equalIn (d+1) e (.int k a) (.int k b)).run P w= .ok (a==b) w:=by
 obtain⟨k',h⟩:=h;simp[Op.equalIn,OH h]
def Dr(ht:P.underlying t=some (.array 4 e))(he:∃ k',P.underlying e=some (.int k'))(hsz:∃ i,P.info? e=some i/\i.size=1)(k:IntKind)(a0 a1 a2 a3 b0 b1 b2 b3:Int)(w:World):
  (Op.equal t (.agg #[.int k a0,.int k a1,.int k a2,.int k a3]) (.agg #[.int k b0,.int k b1,.int k b2,.int k b3])).run P w= .ok (a0==b0&&(a1==b1&&(a2==b2&&a3==b3))) w:=by
 obtain⟨i,hi,hs⟩:=hsz;obtain⟨ki,he'⟩:=he;have hq:=λ(a b:Int) d w=>xM e k a b ⟨ki,he'⟩ d w;have:∀ d,(Op.equalIn (d+2) t (.agg #[.int k a0,.int k a1,.int k a2,.int k a3]) (.agg #[.int k b0,.int k b1,.int k b2,.int k b3])).run P w= .ok (a0==b0&&(a1==b1&&(a2==b2&&a3==b3))) w:=λ d=>by
  rw[Op.equalIn];simp[OH ht,sizeOf,typeInfo,hi,hs];have hp:∀ (q:Array Value) (j:Nat) (kk:IntKind) (z:Int) (w:World),q[j]? =some (.int kk z)->(part e q j).run P w= .ok (.int kk z) w:=λ q j kk z w hz=>by
   simp[part,isAgg,OH he',sizeOf,typeInfo,hi,hs,hz]
  rw[show List.range' 0 4=[0,1,2,3]from J];have A0:=λ w=>hp #[.int k a0,.int k a1,.int k a2,.int k a3] 0 k a0 w J;have B0:=λ w=>hp #[.int k b0,.int k b1,.int k b2,.int k b3] 0 k b0 w J;have A1:=λ w=>hp #[.int k a0,.int k a1,.int k a2,.int k a3] 1 k a1 w J;have B1:=λ w=>hp #[.int k b0,.int k b1,.int k b2,.int k b3] 1 k b1 w J;have A2:=λ w=>hp #[.int k a0,.int k a1,.int k a2,.int k a3] 2 k a2 w J;have B2:=λ w=>hp #[.int k b0,.int k b1,.int k b2,.int k b3] 2 k b2 w J;have A3:=λ w=>hp #[.int k a0,.int k a1,.int k a2,.int k a3] 3 k a3 w J;have B3:=λ w=>hp #[.int k b0,.int k b1,.int k b2,.int k b3] 3 k b3 w J;simp only[forIn_cons,forIn_nil,ON,A0,B0,hq,Ox];by_cases h0:(a0==b0)=true
  ·simp only[h0,RV,RZ,Py,OR,Ox,forIn_cons,ON,A1,B1,hq];by_cases h1:(a1==b1)=true
   ·simp only[h1,RV,RZ,Py,OR,Ox,forIn_cons,ON,A2,B2,hq];by_cases h2:(a2==b2)=true
    ·simp only[h2,RV,RZ,Py,OR,Ox,forIn_cons,forIn_nil,ON,A3,B3,hq];by_cases h3:(a3==b3)=true
     ·simp[h3]
     ·simp[h3]
    ·simp[h2]
   ·simp[h1]
  ·simp[h0]
 exact this 9998
def xN:Value->Value
 | .slice a _ _=>.pointer a
 |_=>undef
variable {α:Type} {E:Enc α}
def Ev.sL{T:TypeId}{v:Value}{l:List α}{m:Nat}(hT:P.underlying T=some (.array m e))(hx:aH L x=some v)(h:RdL w v E l)(hm:m<=l.length):Ev P n L w ⟨d,.sliceToArrayPointer T x,ty,pos,af,g⟩ (xN v):=.of λ ρ hρ=>by
 obtain⟨ad,cap,rfl,_,hc⟩:=h;have:¬ l.length<m:=by omega
 simp only[execOp,hρ hx,Instr.arrayAt];simp[OH hT,this,xN,go_sem]
def Ev.sM{T:TypeId}{v:Value}{l:List α}{m:Nat}(hT:db P T m=true)(hx:aH L x=some (xN v))(h:RdL w v E l)(hm:l.length*E.s=m)(hp:0<m):Ev P n L w ⟨d,.load T x,ty,pos,af,g⟩ (.agg (E.all l).toArray):=.of λ ρ hρ=>by
 obtain⟨ad,cap,rfl,_,hc⟩:=h;have hlen:(E.all l).length=m:=by rw[E.all_length];exact hm
 obtain⟨u0,hu0⟩:∃ u,(E.all l)[0]? =some u:=⟨_,py (by omega)⟩;obtain⟨bb,o,rfl,_⟩:=hc 0 u0 hu0;have hx':ρ x= .pointer (some ⟨bb,o,none⟩):=by rw[hρ hx];rfl
 have hl:=Qn (P:=P) w ⟨bb,o,none⟩ (E.all l) (λ q u hu=>by
  obtain⟨b2,o2,hb,hw⟩:=hc q u hu;cases hb;rw[Ph];exact hw)
 rw[hlen]at hl;have hag:(isAgg T).run P w= .ok true w:=by
  unfold db at hT;cases hun:P.underlying T with
  |none=>simp[hun]at hT
  |some D=>cases D<;>simp[hun]at hT<;>simp[isAgg,OH hun,go_sem]
 have hsz:(sizeOf T).run P w= .ok m w:=by
  unfold db at hT;cases hin:P.info? T with
  |none=>simp[hin]at hT
  |some inf=>simp[hin]at hT;simp[sizeOf,typeInfo,hin,hT.2,go_sem]
 have hld:(Instr.loadAt T (ρ x)).run P w= .ok (.agg (E.all l).toArray) w:=by
  simp only[Instr.loadAt,loadVar,hx',Instr.sureAddr,ON,OR,Ox,hag,hsz,hl,Qa]
 simp only[execOp,ON,hld,Ox,OR]
def yU{α:Type}{l:List α}(h:l.length=4):∃ a b c d,l=[a,b,c,d]:=by
 match l,h with
 |[a,b,c,d],_=>exact⟨a,b,c,d,J⟩
def Ev.kd{k:IntKind}{a b:List Nat}(hT:Dq P t=true)(ha:a.length=4)(hb:b.length=4)(hx:aH L x=some (.agg ((ae k).all a).toArray))(hy:aH L y=some (.agg ((ae k).all b).toArray)):
  Ev P n L w ⟨d,.binOp .neq t x y xt,ty,pos,af,g⟩ (.bool (decide (a≠b))):=.of λ ρ hρ=>by
 obtain⟨a0,a1,a2,a3,rfl⟩:=yU ha;obtain⟨b0,b1,b2,b3,rfl⟩:=yU hb;unfold Dq at hT;split at hT
 ·rename_i e hu
  simp only[OK,R8]at hT;obtain⟨⟨h1,h2⟩,h3⟩:=hT;have he:∃ k',P.underlying e=some (.int k'):=by
   cases hue:P.underlying e with
   |none=>rw[hue]at h1;cases h1
   |some D=>cases D<;>rw[hue]at h1<;>first|exact⟨_,J⟩|cases h1
  have hi:∃ i,P.info? e=some i/\i.size=1:=by
   cases hin:P.info? e with
   |none=>rw[hin]at h2;cases h2
   |some i=>rw[hin]at h2;exact⟨i,J,by simpa using h2⟩
  have hq:=Dr hu he hi k (a0:Int) a1 a2 a3 b0 b1 b2 b3 w;have ex:∀ q0 q1 q2 q3:Nat,((ae k).all [q0,q1,q2,q3]).toArray= #[.int k (q0:Int),.int k (q1:Int),.int k (q2:Int),.int k (q3:Int)]:=λ _ _ _ _=>J;have hx':=hρ hx;have hy':=hρ hy;rw[ex]at hx' hy';have hd:(!((a0:Int)==(b0:Int)&&((a1:Int)==(b1:Int)&&((a2:Int)==(b2:Int)&&(a3:Int)==(b3:Int)))))=decide ([a0,a1,a2,a3]≠[b0,b1,b2,b3]):=by
   have c:∀ u v:Nat,((u:Int)==(v:Int))=decide (u=v):=λ u v=>by
    by_cases e:u=v
    ·simp[e]
    ·have:¬ (u:Int)=(v:Int):=by omega
     simp[e,this]
   rw[c,c,c,c];by_cases e0:a0=b0<;>by_cases e1:a1=b1<;>by_cases e2:a2=b2<;>by_cases e3:a3=b3<;>simp[e0,e1,e2,e3]
  simp only[execOp,hx',hy',eqGuard,binOp];simp[h3,hq,hd,go_sem]
 ·cases hT
end
