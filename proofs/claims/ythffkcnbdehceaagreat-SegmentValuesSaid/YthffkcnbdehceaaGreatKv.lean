/-
 KV:arrays of four bytes:read out of a slice,compared. Our own text;it names no program.
-/
import Derived.Test.YthffkcnbdehceaaGreatKm
set_option linter.all false
open Go.Proofs.YthffkcnbdehceaaGreat
open List
namespace Go.Kw
open Go.RowKit
section
variable {P:Program} {n:Nat} {L:aA} {w w0:World} {d:Option Nat} {x y:Operand} {xt yt ty t e:TypeId} {pos:String} {af:Array Edge} {g:Option (Nat×Bool)}
def H5(P:Program)(t:TypeId):Bool:=
 match P.underlying t with
 |some (.array 4 e)=>(match P.underlying e with|some (.int _)=>true|_=>false)&&(match P.info? e with|some i=>i.size==1|none=>false)&& !P.eqGuardType P.depth t
 |_=>false
def Bi(e:TypeId)(k:IntKind)(a b:Int)(h:∃ k',P.underlying e=some (.int k'))(d:Nat)(w:World):(Op.equalIn (d+1) e (.int k a) (.int k b)).run P w= .ok (a==b) w:=by
 obtain⟨k',h⟩:=h;simp[Op.equalIn,Rt h]
def H6(ht:P.underlying t=some (.array 4 e))(he:∃ k',P.underlying e=some (.int k'))(hsz:∃ i,P.info? e=some i/\i.size=1)(k:IntKind)(a0 a1 a2 a3 b0 b1 b2 b3:Int)(w:World):
  (Op.equal t (.agg #[.int k a0,.int k a1,.int k a2,.int k a3]) (.agg #[.int k b0,.int k b1,.int k b2,.int k b3])).run P w= .ok (a0==b0&&(a1==b1&&(a2==b2&&a3==b3))) w:=by
 obtain⟨i,hi,hs⟩:=hsz;obtain⟨ki,he'⟩:=he;have hq:=λ(a b:Int) d w=>Bi e k a b ⟨ki,he'⟩ d w;have:∀ d,(Op.equalIn (d+2) t (.agg #[.int k a0,.int k a1,.int k a2,.int k a3]) (.agg #[.int k b0,.int k b1,.int k b2,.int k b3])).run P w= .ok (a0==b0&&(a1==b1&&(a2==b2&&a3==b3))) w:=λ d=>by
  rw[Op.equalIn];simp[Rt ht,sizeOf,typeInfo,hi,hs];have hp:∀ (q:Array Value) (j:Nat) (kk:IntKind) (z:Int) (w:World),q[j]? =some (.int kk z)->(part e q j).run P w= .ok (.int kk z) w:=λ q j kk z w hz=>by
   simp[part,isAgg,Rt he',sizeOf,typeInfo,hi,hs,hz]
  rw[show List.range' 0 4=[0,1,2,3]from Y];have A0:=λ w=>hp #[.int k a0,.int k a1,.int k a2,.int k a3] 0 k a0 w Y;have B0:=λ w=>hp #[.int k b0,.int k b1,.int k b2,.int k b3] 0 k b0 w Y;have A1:=λ w=>hp #[.int k a0,.int k a1,.int k a2,.int k a3] 1 k a1 w Y;have B1:=λ w=>hp #[.int k b0,.int k b1,.int k b2,.int k b3] 1 k b1 w Y;have A2:=λ w=>hp #[.int k a0,.int k a1,.int k a2,.int k a3] 2 k a2 w Y;have B2:=λ w=>hp #[.int k b0,.int k b1,.int k b2,.int k b3] 2 k b2 w Y;have A3:=λ w=>hp #[.int k a0,.int k a1,.int k a2,.int k a3] 3 k a3 w Y;have B3:=λ w=>hp #[.int k b0,.int k b1,.int k b2,.int k b3] 3 k b3 w Y;simp only[forIn_cons,forIn_nil,RA,A0,B0,hq,Rs];by_cases h0:(a0==b0)=true
  ·simp only[h0,Vl,Vp,SX,RJ,Rs,forIn_cons,RA,A1,B1,hq];by_cases h1:(a1==b1)=true
   ·simp only[h1,Vl,Vp,SX,RJ,Rs,forIn_cons,RA,A2,B2,hq];by_cases h2:(a2==b2)=true
    ·simp only[h2,Vl,Vp,SX,RJ,Rs,forIn_cons,forIn_nil,RA,A3,B3,hq];by_cases h3:(a3==b3)=true
     ·simp[h3]
     ·simp[h3]
    ·simp[h2]
   ·simp[h1]
  ·simp[h0]
 exact this 9998
def Bj:Value->Value
 | .slice a _ _=>.pointer a
 |_=>undef
variable {α:Type} {E:Enc α}
def Ev.Je{T:TypeId}{v:Value}{l:List α}{m:Nat}(hT:P.underlying T=some (.array m e))(hx:aJ L x=some v)(h:RdL w v E l)(hm:m<=l.length):Ev P n L w ⟨d,.sliceToArrayPointer T x,ty,pos,af,g⟩ (Bj v):=.of λ ρ hρ=>by
 obtain⟨ad,cap,rfl,_,hc⟩:=h;have:¬ l.length<m:=by omega
 simp only[execOp,hρ hx,Instr.arrayAt];simp[Rt hT,this,Bj,go_sem]
def Ev.J9{T:TypeId}{v:Value}{l:List α}{m:Nat}(hT:dS P T m=true)(hx:aJ L x=some (Bj v))(h:RdL w v E l)(hm:l.length*E.s=m)(hp:0<m):Ev P n L w ⟨d,.load T x,ty,pos,af,g⟩ (.agg (E.all l).toArray):=.of λ ρ hρ=>by
 obtain⟨ad,cap,rfl,_,hc⟩:=h;have hlen:(E.all l).length=m:=by rw[E.all_length];exact hm
 obtain⟨u0,hu0⟩:∃ u,(E.all l)[0]? =some u:=⟨_,py (by omega)⟩;obtain⟨bb,o,rfl,_⟩:=hc 0 u0 hu0;have hx':ρ x= .pointer (some ⟨bb,o,none⟩):=by rw[hρ hx];rfl
 have hl:=TO (P:=P) w ⟨bb,o,none⟩ (E.all l) (λ q u hu=>by
  obtain⟨b2,o2,hb,hw⟩:=hc q u hu;cases hb;rw[Sz];exact hw)
 rw[hlen]at hl;have hag:(isAgg T).run P w= .ok true w:=by
  unfold dS at hT;cases hun:P.underlying T with
  |none=>simp[hun]at hT
  |some D=>cases D<;>simp[hun]at hT<;>simp[isAgg,Rt hun,go_sem]
 have hsz:(sizeOf T).run P w= .ok m w:=by
  unfold dS at hT;cases hin:P.info? T with
  |none=>simp[hin]at hT
  |some inf=>simp[hin]at hT;simp[sizeOf,typeInfo,hin,hT.2,go_sem]
 have hld:(Instr.loadAt T (ρ x)).run P w= .ok (.agg (E.all l).toArray) w:=by
  simp only[Instr.loadAt,loadVar,hx',Instr.sureAddr,RA,RJ,Rs,hag,hsz,hl,TJ]
 simp only[execOp,RA,hld,Rs,RJ]
def Cv{α:Type}{l:List α}(h:l.length=4):∃ a b c d,l=[a,b,c,d]:=by
 match l,h with
 |[a,b,c,d],_=>exact⟨a,b,c,d,Y⟩
def Ev.xK{k:IntKind}{a b:List Nat}(hT:H5 P t=true)(ha:a.length=4)(hb:b.length=4)(hx:aJ L x=some (.agg ((a8 k).all a).toArray))(hy:aJ L y=some (.agg ((a8 k).all b).toArray)):
  Ev P n L w ⟨d,.binOp .neq t x y xt,ty,pos,af,g⟩ (.bool (decide (a≠b))):=.of λ ρ hρ=>by
 obtain⟨a0,a1,a2,a3,rfl⟩:=Cv ha;obtain⟨b0,b1,b2,b3,rfl⟩:=Cv hb;unfold H5 at hT;split at hT
 ·rename_i e hu
  simp only[RC,Vu]at hT;obtain⟨⟨h1,h2⟩,h3⟩:=hT;have he:∃ k',P.underlying e=some (.int k'):=by
   cases hue:P.underlying e with
   |none=>rw[hue]at h1;cases h1
   |some D=>cases D<;>rw[hue]at h1<;>first|exact⟨_,Y⟩|cases h1
  have hi:∃ i,P.info? e=some i/\i.size=1:=by
   cases hin:P.info? e with
   |none=>rw[hin]at h2;cases h2
   |some i=>rw[hin]at h2;exact⟨i,Y,by simpa using h2⟩
  have hq:=H6 hu he hi k (a0:Int) a1 a2 a3 b0 b1 b2 b3 w;have ex:∀ q0 q1 q2 q3:Nat,((a8 k).all [q0,q1,q2,q3]).toArray= #[.int k (q0:Int),.int k (q1:Int),.int k (q2:Int),.int k (q3:Int)]:=λ _ _ _ _=>Y;have hx':=hρ hx;have hy':=hρ hy;rw[ex]at hx' hy';have hd:(!((a0:Int)==(b0:Int)&&((a1:Int)==(b1:Int)&&((a2:Int)==(b2:Int)&&(a3:Int)==(b3:Int)))))=decide ([a0,a1,a2,a3]≠[b0,b1,b2,b3]):=by
   have c:∀ u v:Nat,((u:Int)==(v:Int))=decide (u=v):=λ u v=>by
    by_cases e:u=v
    ·simp[e]
    ·have:¬ (u:Int)=(v:Int):=by omega
     simp[e,this]
   rw[c,c,c,c];by_cases e0:a0=b0<;>by_cases e1:a1=b1<;>by_cases e2:a2=b2<;>by_cases e3:a3=b3<;>simp[e0,e1,e2,e3]
  simp only[execOp,hx',hy',eqGuard,binOp];simp[h3,hq,hd,go_sem]
 ·cases hT
end
