/-
 KP:more operations for the program logic of Kw:building structs,boxes,masks,signed shifts. Our own text;it names no program.
-/
import Derived.Test.YtcgidfgdbhihbaaGreatDoorKw
import Derived.ProofKit
import Derived.HandedShaped
import Derived.LaidMore
open List renaming length→I,take→J,drop→ww
set_option linter.all false
open Go.Proofs.YtcgidfgdbhihbaaGreatDoor
open List
namespace Go.Kw
open Go.RowKit
def lX(pl:List (Nat×Nat)):List (Nat×Value)->List Value->Option (List Value)
 |[],zs=>some zs
 |(i,v)::r,zs=>match pl[i]? with
  |some (off,1)=>cond (Nat.ble (off+1) (I zs)) (lX pl r (zs.set off v)) none
  |_=>none
def oo:List (Nat×Value)->Prop
 |[]=>True
 |(_,v)::r=>v.oneCell'=true/\oo r
def du(L:aA):List (Nat×Operand)->Option (List (Nat×Value))
 |[]=>some []
 |(i,x)::r=>(aM L x).bind λ v=>(du L r).map ((i,v):: ·)
structure BuildTy(P:Program)(T:TypeId)(pl:List (Nat×Nat))(zs:List Value):Prop where
 zero:(P.info? T).map (·.zero)=some (some (.agg zs.toArray))
 und:∃ fs,P.underlying T=some (.struct fs)/\∀ w,(fs.mapM λ f=>do pure (f.offset,<-sizeOf f.type):Sem _).run P w= .ok pl.toArray w
def tS(pl:List (Nat×Nat)):∀ (parts:List (Nat×Value)) (d out:List Value),oo parts->lX pl parts d=some out->Instr.fill (pl.toArray[·]?) d.toArray parts=some out.toArray
 |[],d,out,_,h=>by simp only[lX,YB]at h;subst h;rfl
 |(i,v)::r,d,out,h1,h=>by
  have g:v.cells= #[v]:=by have:=h1.1;cases v<;>first|rfl|cases this
  unfold lX at h;cases p:pl[i]? with
  |none=>simp[p]at h
  |some q=>
   obtain⟨off,s⟩:=q;rw[p]at h
   match s,h with
   |1,h=>
    simp only at h;cases H:Nat.ble (off+1) (I d) with
    |false=>simp[H]at h
    |true=>
     rw[H]at h;have j:=XW H;have k:=tS pl r (d.set off v) out h1.2 h;simp only[Instr.fill,getElem?_toArray,p,g];simp only[ZW,No,Xv,XU,ne_eq,not_true,a1n,Bool.false_or,a1x];rw[Xn cf];simpa using k
section
variable {P:Program} {n:Nat} {L:aA} {w w0:World} {cs:List Chunk} {K:Value->World->Prop} {d:Option Nat} {ty:TypeId} {pos:String} {af:Array Edge} {g:Option (Nat×Bool)}
def Ev.build{T:TypeId}{pl:List (Nat×Nat)}{k out:List Value}{parts:List (Nat×Operand)}{vs:List (Nat×Value)}(y:BuildTy P T pl k)(D:du L parts=some vs)(h1:oo vs)(A:lX pl vs k=some out):
  Ev P n L w ⟨d,.build T parts.toArray,ty,pos,af,g⟩ (.agg out.toArray):=.of λ ρ N=>by
 have he:∀ (parts:List (Nat×Operand)) (vs:List (Nat×Value)),du L parts=some vs->parts.map (λ(i,x)=>(i,ρ x))=vs:=by
  intro parts;induction parts with
  |nil=>intro vs h;simp[du]at h;simp[h]
  |cons p r Q=>
   intro vs h;obtain⟨i,x⟩:=p;simp only[du,Zj,Yz]at h;obtain⟨v,K,W,t,rfl⟩:=h;simp[N K,Q W t]
 obtain⟨X,E,q⟩:=y.und;have u:=y.zero;have l:=tS pl vs k out h1 A;cases o:P.info? T with
 |none=>simp[o]at u
 |some R=>
  simp[o]at u;have j:(Instr.build T vs.toArray).run P w= .ok (.agg out.toArray) w:=by
   simp only[Instr.build,zeroValue,typeInfo,XC];simp[o,u,Xy E];have:=q w;simp at this;have H:Instr.fill (λ x=>pl[x]?) k.toArray vs=some out.toArray:=a2Q
   simp[this,Value.cells,H]
  simp only[execOp];rw[show(parts.toArray.map λ(i,x)=>(i,ρ x))=vs.toArray by rw[Zk,he parts vs D]];simp only[XC,j,Xw,XG]
def Ay(a m:Nat):a&&&(2^m-1)=a%2^m:=Nat.and_two_pow_sub_one_eq_mod a m
def Jw{P:Program}{a b:Nat}(i:a<2^63)(g:b<2^63)(w:World):(Op.intBits .and .i64 a b).run P w= .ok (.int .i64 ((a&&&b:Nat):Int)) w:=by
 have:=tV (Nat.and_lt_two_pow a g);have H:a<2^IntKind.i64.bits:=by simp only[IntKind.bits];omega
 have d:b<2^IntKind.i64.bits:=by simp only[IntKind.bits];omega
 simp only[Op.intBits,ZY,BitVec.toNat_and,a0g,XN H,XN d,this];rfl
def Ev.Mm{x y:Operand}{xt yt:TypeId}{a b:Nat}(m:Nat)(k:aM L x=some (.int .i64 (a:Int)))(l:aM L y=some (.int .i64 (b:Int)))(j:b=2^m-1)(H:a<2^63)(i:b<2^63):
  Ev P n L w ⟨d,.binOp .and xt x y yt,ty,pos,af,g⟩ (.int .i64 ((a%2^m:Nat):Int)):=
 .bin k l (Yd ..) λ w=>by rw[binOp_and,Jw H i,j,Ay]
def Ev.MF{x y:Operand}{xt yt:TypeId}{k:IntKind}{a b:Nat}(m:Nat)(o:aM L x=some (.int k (a:Int)))(p:aM L y=some (.int k (b:Int)))(j:k.signed=false)(l:b=2^m-1)(H:a<2^k.bits)(i:b<2^k.bits):
  Ev P n L w ⟨d,.binOp .and xt x y yt,ty,pos,af,g⟩ (.int k ((a%2^m:Nat):Int)):=by
 have:=Ev.TX (P:=P) (n:=n) (w:=w) (d:=d) (xt:=xt) (yt:=yt) (ty:=ty) (pos:=pos) (af:=af) (g:=g) o p j H i;rwa[l,Ay]at this
def Ev.nu{x y:Operand}{xt yt:TypeId}{a b:Nat}(i:aM L x=some (.int .i64 (a:Int)))(j:aM L y=some (.int .i64 ((b:Int)-1)))(H:b<=a+1)(h:a+1<=9223372036854775807):
  Ev P n L w ⟨d,.binOp .sub xt x y yt,ty,pos,af,g⟩ (.int .i64 ((a+1-b:Nat):Int)):=by
 have:=Ev.sub (P:=P) (n:=n) (w:=w) (d:=d) (xt:=xt) (yt:=yt) (ty:=ty) (pos:=pos) (af:=af) (g:=g) i j ⟨O,O⟩;rwa[show(a:Int)-((b:Int)-1)=((a+1-b:Nat):Int) by omega]at this
def OpE.wu{t e b:Nat}{z:Value}{α:Type}(E:Enc α)(y:SlTy P t e E.s z b)(i:Sat w0 cs w)
  (k:∀ u W,Sat w0 (cs++[cL u e E []]) W->Chg [] w W->K u W):OpE P n L w ⟨d,.buildSlice t 0 #[],ty,pos,af,g⟩ K:=by
 obtain⟨o,j,q,l,r⟩:=y.info;refine .val (λ ρ p=>?_) (k _ _ (by have:=i.vG e E.s 0 0 [] a0B (KM _) bw;rw[take_nil]at this;exact this) (.alloc _ _));have H:(Instr.buildSlice t 0 #[]).run P w= .ok (.slice (some ⟨w.heap.size,0,none⟩) 0 0) (w.alloc (.cells #[] e)):=by
  simp[Instr.buildSlice,Xy y.und,sizeOf,typeInfo,j,l,Instr.fill,newRow];simp[show Array.range 0=(#[]:Array Nat)from Y]
 simp only[execOp,Zk,Zy,XC,H,Xw,XG]
structure ArrTy(P:Program)(T m e s:Nat):Prop where
 und:P.underlying T=some (.array m e)
 size:(P.info? e).map (·.size)=some s
def Ev.dU{x i:Operand}{T m e s b o j:Nat}{k:IntKind}(p:ArrTy P T m e s)(u:aM L x=some (.pointer (some ⟨b,o,none⟩)))(r:aM L i=some (.int k (j:Int)))(hj:j<m):
  Ev P n L w ⟨d,.indexAddr T x i,ty,pos,af,g⟩ (.pointer (some ⟨b,o+j*s,none⟩)):=.of λ ρ q=>by
 have t:(0:Int)<=(j:Int)/\(j:Int)<(m:Int):=O
 have l:=p.size;cases H:P.info? e with
 |none=>simp[H]at l
 |some y=>
  simp[H]at l;simp only[execOp,q u,q r,Instr.indexAt,asIntOf,XC,Xy p.und,Xw];simp[Instr.sureAddr,sizeOf,typeInfo,H,l,t,hj,Yg,go_sem]
def Sat.sS{α:Type}{E:Enc α}(h:Sat w0 cs w)(i:Nat){b T j:Nat}{l:List α}{a:α}{u:Value}(d:cs[i]? =some (ai b T (E.all l)))(H:l[j]? =some a)(g:0<E.s)(k:(E.enc a)[0]? =some u):w.cell? ⟨b,0+j*E.s,none⟩=some u:=by
 rw[XU];have:=E.all_get H g;rw[YP]at this;exact h.cell d (by rw[this];exact k)
theorem OpE.setArr{α:Type}{E:Enc α}{x y:Operand}{T U b j:Nat}{u:Value}{l:List α}{a:α}(i:Nat)(p:(P.info? T).map (·.size)=some 1)(A:Sat w0 cs w)(q:cs[i]? =some (ai b U (E.all l)))(k:aM L x=some (.pointer (some ⟨b,0+j*E.s,none⟩)))
  (D:aM L y=some u) (he:E.enc a=[u]) (hj:j<I l) (r:∀ W,Sat w0 (cs.set i (ai b U (E.all (l.set j a)))) W->Chg [b] w W->K undef W):OpE P n L w ⟨d,.store T x y,ty,pos,af,g⟩ K:=by
 have N:E.s=1:=by have:=E.len a;rw[he]at this;simpa using this.symm
 have t:(E.all l)[j*E.s]? =some _:=py a3F;rw[XU]at k;refine OpE.aG p A q k D (E.one a u a3G) t λ W H o=>r W ?_ o;rw[sC he hj]at H;exact H
end
@[reducible] def Enc.ag{α:Type}(E:Enc α)(a:α):Value:=.agg (E.enc a).toArray
def tT(vs:List Value):∀ (k:Nat) (p t:List Value),I p=k->I vs<=I t->
  (vs.zipIdx k).foldl (λ(cs:Array Value) (c,j)=>cs.setIfInBounds j c) (p++t).toArray=(p++vs++ww (I vs) t).toArray:=by
 induction vs with
 |nil=>intro k p t _ _;simp
 |cons v r i=>
  intro k p t H l;cases t with
  |nil=>simp at l
  |cons q t=>
   simp only[zipIdx_cons,Zg];have e:((p++q::t).toArray.setIfInBounds k v)=((p++[v])++t).toArray:=by
    subst H;simp
   rw[e,i (k+1) (p++[v]) t zc a2Q];simp
section
variable {P:Program} {n:Nat} {L:aA} {w w0:World} {cs:List Chunk} {K:Value->World->Prop} {d:Option Nat} {ty:TypeId} {pos:String} {af:Array Edge} {g:Option (Nat×Bool)} {α:Type} {E:Enc α}
def Wd(v:Value)(m:Nat):Prop:=∃ a p,v= .slice a m p/\(0<m->∃ b o,a=some ⟨b,o,none⟩)
def RdL.gY{v:Value}{l:List α}(h:RdL w v E l)(j:0<E.s):Wd v (I l):=by
 obtain⟨a,p,rfl,_,g⟩:=h;refine⟨a,p,Y,λ i=>?_⟩;have H:0<I (E.all l):=by rw[E.all_length];exact Nat.mul_pos i j
 obtain⟨b,o,d,_⟩:=g 0 _ (py H);exact⟨b,o,d⟩
def Ev.lK{x i:Operand}{t e s b:Nat}{z v:Value}{m j:Nat}{k:IntKind}(y:SlTy P t e s z b)(D:aM L x=some v)(u:aM L i=some (.int k (j:Int)))(h:Wd v m)(hj:j<m):
  Ev P n L w ⟨d,.indexAddr t x i,ty,pos,af,g⟩ (bY v (j*s)):=.of λ ρ H=>by
 obtain⟨a,p,rfl,r⟩:=h;obtain⟨E,l,N,q,Q⟩:=y.info;obtain⟨K,o,rfl⟩:=r O;have A:(0:Int)<=(j:Int)/\(j:Int)<(m:Int):=O
 simp only[execOp,H D,H u,Instr.indexAt,asIntOf];simp[Xy y.und,sizeOf,typeInfo,l,q,A,bY,go_sem,hj]
def Ev.QV{x:Operand}{T:TypeId}{v:Value}{j:Nat}{l:List α}{a:α}(i:dF P T E.s=true)(hx:aM L x=some (bY v (j*E.s)))(h:RdL w v E l)(ha:l[j]? =some a)(hs:0<E.s):
  Ev P n L w ⟨d,.load T x,ty,pos,af,g⟩ (E.ag a):=.of λ ρ hρ=>by
 obtain⟨ad,a0,rfl,_,R⟩:=h;have H:∀ q u,(E.enc a)[q]? =some u->(E.all l)[j*E.s+q]? =some u:=λ q u r=>by
  have hq:q<E.s:=by have:=(KC.1 r).1;rw[E.len]at this;exact this
  rw[E.all_get ha hq];exact r
 obtain⟨X,K⟩:∃ u,(E.enc a)[0]? =some u:=⟨_,py (by rw[E.len];exact hs)⟩;obtain⟨Q,o,rfl,_⟩:=R _ X (H 0 X K);have N:ρ x= .pointer (some ⟨Q,o+j*E.s,none⟩):=by rw[hρ hx];simp[bY,Yg]
 have W:=Ze (P:=P) w ⟨Q,o+j*E.s,none⟩ (E.enc a) (λ q u r=>by
  obtain⟨b2,o2,hb,hw⟩:=R _ u (H q u r);cases hb;rw[Yg,YG];exact hw)
 rw[E.len]at W;have t:(isAgg T).run P w= .ok true w:=by
  unfold dF at i;cases p:P.underlying T with
  |none=>simp[p]at i
  |some D=>cases D<;>simp[p]at i<;>simp[isAgg,Xy p,go_sem]
 have A:(sizeOf T).run P w= .ok E.s w:=by
  unfold dF at i;cases k:P.info? T with
  |none=>simp[k]at i
  |some a1=>simp[k]at i;simp[sizeOf,typeInfo,k,i.2,go_sem]
 have y:(Instr.loadAt T (ρ x)).run P w= .ok (E.ag a) w:=by
  simp only[Instr.loadAt,loadVar,N,Instr.sureAddr,XC,XG,Xw,t,A,W,Z7]
 simp only[execOp,XC,y,Xw,XG]
def Jx{l:List α}{j:Nat}{a:α}(hj:j<I l):J (j*E.s) (E.all l)++E.enc a++ww (j*E.s+E.s) (E.all l)=E.all (l.set j a):=by
 have d:l.set j a=J j l++a::ww (j+1) l:=by rw[YO];simp[hj]
 have g:j*E.s+E.s=(j+1)*E.s:=by rw[Yc];omega
 rw[d,E.all_append,E.all_cons,E.all_take,g,E.all_drop,KW]
def OpE.DO{x y:Operand}{T e j:Nat}{v:Value}{l:List α}{a:α}(i:Nat)(t:dF P T E.s=true)(hs:Sat w0 cs w)(hi:cs[i]? =some (cL v e E l))(hx:aM L x=some (bY v (j*E.s)))
  (hy:aM L y=some (E.ag a)) (hj:j<I l) (hp:0<E.s) (p:∀ w',Sat w0 (cs.set i (cL v e E (l.set j a))) w'->Chg (ck v) w w'->K undef w'):OpE P n L w ⟨d,.store T x y,ty,pos,af,g⟩ K:=by
 have u:=hs.get hi;have a4:=E.all_length l;obtain⟨hl,⟨rfl,a6⟩|⟨g,N,r,rfl,X,hh,a0,W,H,ht⟩⟩:=id u
 ·omega
 have a5:j*E.s+E.s<=I l*E.s:=by
  have:(j+1)*E.s<=I l*E.s:=YH _ hj;rw[Yc]at this;omega
 have R:I l*E.s<=r.size:=by rw[H];exact YH _ a0
 have D:=a1i P g (j*E.s) e (E.enc a) 0 r w hh a3d (E.one a);rw[YP,E.len]at D;cases o:P.info? T with
 |none=>unfold dF at t;simp[o]at t
 |some a3=>
  have a1:a3.size=E.s:=by unfold dF at t;simp[o]at t;exact t.2
  refine .unit (w':=w.setRow g (J (j*E.s) r.toList++E.enc a++ww (j*E.s+E.s) r.toList).toArray) (λ ρ hρ=>?_) (p _ (hs.set i hi ⟨Y,Y,Y,bw,λ k _ p=>a0e w g k _ (λ e=>p a4c)⟩ ?_ (λ _ p=>.inl p)) ⟨Y,Y,Y,bw,λ k _ p=>a0e w g k _ (λ e=>p (by simp[ck,e]))⟩)
  ·have a2:ρ x= .pointer (some ⟨g,j*E.s,none⟩):=by rw[hρ hx];simp[bY,Yg]
   have A:(Instr.storeAt T (.pointer (some ⟨g,j*E.s,none⟩)) (E.ag a)).run P w= .ok () (w.setRow g (J (j*E.s) r.toList++E.enc a++ww (j*E.s+E.s) r.toList).toArray):=by
    simp[Instr.storeAt,Instr.sureAddr,storeVar,sizeOf,typeInfo,o,a1,Value.cells,E.len,D]
   simp only[execOp,a2,hρ hy,XC,A,Xw,XG]
  ·refine⟨E.all_length _,.inr ⟨g,N,_,?_,X,a16 w g r _ e _ hh,a2z,W,?_,?_⟩⟩
   ·rw[Xt]
   ·simp only[ZW,AT,Xo,XD,YL,E.len];rw[H];rw[H]at R;omega
   ·rw[Xt,<-Jx hj,<-ht];simp only[toList_toArray];apply ZC;intro q;simp only[Yu,a13,AT,Xo,YL,E.len,YI,XD];rw[Y5 (by omega:j*E.s<=r.size),Y5 (by omega:I l*E.s<=r.size),Y5 (by omega:j*E.s<=I l*E.s)];by_cases Q:q<j*E.s
    ·simp[Q,show q<j*E.s+E.s by omega,show q<I l*E.s by omega]
    ·by_cases h2:q<j*E.s+E.s
     ·simp[Q,h2,show q<I l*E.s by omega]
     ·simp only[Q,h2,Yy];by_cases h3:q<I l*E.s
      ·simp[h3,show j*E.s+E.s+(q-(j*E.s+E.s))=q by omega]
      ·simp[h3,show¬ j*E.s+E.s+(q-(j*E.s+E.s))<I l*E.s by omega]
def OpE.bO{x:Operand}{t e b:Nat}{z:Value}(E:Enc α)(a:α)(y:SlTy P t e E.s z b)(hp:0<E.s)(N:E.s<=16777216)(hs:Sat w0 cs w)(hx:aM L x=some (E.ag a))
  (hk:∀ u W,Sat w0 (cs++[cL u e E [a]]) W->Chg [] w W->K u W):OpE P n L w ⟨d,.buildSlice t 1 #[(0,x)],ty,pos,af,g⟩ K:=by
 obtain⟨j,Q,i2,r,i4⟩:=y.info;have hz:=y.zs;refine .val (λ ρ hρ=>?_) (hk (.slice (some ⟨w.heap.size,0,none⟩) 1 1) (w.alloc (.cells (E.enc a).toArray e)) ?_ (.alloc _ _))
 ·have l:∀ k:Array Value,Instr.fill (λ i=>some (i*j.size,j.size)) ((Array.range (1*j.size)).map (k[· %k.size]!)) [(0,E.ag a)]=some (E.enc a).toArray:=λ k=>by
   have H:=tT (E.enc a) 0 [] ((List.range (1*j.size)).map (k[· %k.size]!)) Y (by simp[E.len,r]);simp only[YW]at H;have q:I (E.enc a)=j.size:=by rw[E.len,r]
   have R:(Array.range (1*j.size)).map (k[· %k.size]!)=((List.range (1*j.size)).map (k[· %k.size]!)).toArray:=by
    apply a18;simp
   have T:(List.drop (I (E.enc a)) ((List.range (1*j.size)).map (k[· %k.size]!)))=[]:=Yo a2F;rw[T,Yr]at H;rw[R];have o:(E.ag a).cells=(E.enc a).toArray:=rfl;simp only[Instr.fill,o,a0z,XU];rw[Xn a2F];have D:(E.enc a).toArray.zipIdx.toList=(E.enc a).zipIdx:=bw
   rw[<-Array.foldl_toList,D];exact If some H
  have p:(Instr.buildSlice t 1 #[(0,E.ag a)]).run P w= .ok (.slice (some ⟨w.heap.size,0,none⟩) 1 1) (w.alloc (.cells (E.enc a).toArray e)):=by
   have H:=l z.cells;rw[r,Z0]at H;have A:¬ 2^24<E.s:=O
   have X:¬ E.s=0:=O
   have r1:(zeroValue e).run P w= .ok z w:=by simp[zeroValue,typeInfo,Q,i2,go_sem]
   have r2:(sizeOf e).run P w= .ok E.s w:=by simp[sizeOf,typeInfo,Q,r,go_sem]
   have r3:(newRow e (E.enc a).toArray).run P w= .ok ⟨w.heap.size,0,none⟩ (w.alloc (.cells (E.enc a).toArray e)):=a2N
   simp only[Instr.buildSlice,Xy y.und,r2,XC,Xw,Z0,a1x,A,X,Yy,r1,XG,H,r3]
  simp only[execOp,Zk,XZ,Zy,hρ hx,XC,p,Xw,XG]
 ·have h:=hs.vG e E.s 1 1 (E.enc a) a0B (KM _) a3d;unfold cL;rw[E.all_one];rw[Xx a3d]at h;exact h
def OpE.bo{x y:Operand}{T i b:Nat}{U:TypeId}{j vs:List Value}(o:dF P T (I vs)=true)(E:Sat w0 cs w)(D:cs[i]? =some (ai b U j))(Q:I vs=I j)(R:aM L x=some (.pointer (some ⟨b,0,none⟩)))
  (X:aM L y=some (.agg vs.toArray)) (h1:∀ v∈vs,v.oneCell'=true) (l:∀ W,Sat w0 (cs.set i (ai b U vs)) W->Chg [b] w W->K undef W):OpE P n L w ⟨d,.store T x y,ty,pos,af,g⟩ K:=by
 have A:w.heap[b]? =some (.cells j.toArray U (0,0)):=E.get D;have t:=a1i P b 0 U vs 0 j.toArray w A cf h1;have r:(J (0+0) j.toArray.toList++vs++ww (0+0+I vs) j.toArray.toList)=vs:=a3J
 rw[r]at t;cases H:P.info? T with
 |none=>unfold dF at o;simp[H]at o
 |some u=>
  have q:u.size=I vs:=by unfold dF at o;simp[H]at o;exact o.2
  refine .unit (w':=w.setRow b vs.toArray) (λ ρ N=>?_) (l _ (E.set i D ⟨Y,Y,Y,bw,λ k _ l=>a0e w b k _ (λ e=>l (by simp[ai,e]))⟩ (a16 w b _ _ U _ A) (λ _ l=>.inl l)) ⟨Y,Y,Y,bw,λ k _ l=>a0e w b k _ (λ e=>l (by simp[e]))⟩);have p:(Instr.storeAt T (.pointer (some ⟨b,0,none⟩)) (.agg vs.toArray)).run P w= .ok () (w.setRow b vs.toArray):=by
   simp[Instr.storeAt,Instr.sureAddr,storeVar,sizeOf,typeInfo,H,q,Value.cells,t]
  simp only[execOp,N R,N X,XC,p,Xw,XG]
def Ha(t e:TypeId)(a:Option Addr)(m c:Nat)(h:P.underlying t=some (.slice e))(w:World):(binOp .eql t (.slice a m c) (.slice none 0 0)).run P w= .ok (.bool a.isNone) w:=by
 have:∀ d,(Op.equalIn (d+1) t (.slice a m c) (.slice none 0 0)).run P w= .ok a.isNone w:=λ d=>by cases a<;>simp[Op.equalIn,Xy h]
 simp only[binOp];simp[Op.equal,Op.maxDepth,this 9999]
section
variable {x y:Operand} {t e T:TypeId} {v:Value} {m:Nat}
def Ev.U9(u:P.underlying t=some (.slice e))(j:aM L x=some v)(k:aM L y=some (.slice none 0 0))(h:Wd v m)(i:0<m):Ev P n L w ⟨d,.binOp .eql t x y T,ty,pos,af,g⟩ (.bool false):=by
 obtain⟨a,c,rfl,H⟩:=h;obtain⟨b,o,rfl⟩:=H i;exact .bin j k a0M λ w=>Ha t e _ m c u w
end
def cells_one{v:Value}(h:v.oneCell'=true):v.cells.toList=[v]:=by cases v<;>first|rfl|cases h
def Ev.kE{x:Operand}{f:FuncId}{v:Value}(H:aM L x=some v):Ev P n L w ⟨d,.makeFunc (.func f) #[] #[x],ty,pos,af,g⟩ (.func (.func f) #[] #[v]):=.of λ ρ i=>by
 simp[execOp,Instr.makeFunc,i H,go_sem]
def Ev.MC{x y:Operand}{z:Int}{p:Prop}[Decidable p]{k:IntKind}{o:TypeId}{T:TypeId}(H:aM L x=some (.int k z))(i:aM L y=some (.int k 0))(j:z<0↔p):
  Ev P n L w ⟨d,.binOp .lss o x y T,ty,pos,af,g⟩ (.bool (decide p)):=by
 have:decide p=decide (z<0):=by simp[j]
 rw[this];exact Ev.lss H i
end
structure SV where
 a:Option Addr
 n:Nat
 c:Nat
@[reducible] def SV.val(s:SV):Value:=.slice s.a s.n s.c
def RdL.sv{α:Type}{w:World}{v:Value}{E:Enc α}{l:List α}(h:RdL w v E l):∃ s:SV,v=s.val/\s.n=I l:=by
 obtain⟨a,p,rfl,_⟩:=h;exact⟨⟨a,I l,p⟩,Y,Y⟩
def lF(cs:List Chunk):Chunk where
 foot:=cs.flatMap Chunk.foot
 holds w:=(∀ c∈cs,c.holds w)/\cs.Pairwise λ(c d:Chunk)=>∀ k∈c.foot,k∉d.foot
 stable w w' h hc:=⟨λ c H=>c.stable w w' (λ k g=>h k (Z4.2 ⟨c,H,g⟩)) (hc.1 c H),hc.2⟩
def Sat.iN{w0 w:World}{P ds Q:List Chunk}:Sat w0 (P++lF ds::Q) w↔Sat w0 (P++(ds++Q)) w:=by
 constructor
 ·intro h;have A:=h.holds (lF ds) bw;have p:=YU.1 h.apart;have q:=XY.1 p.2.1;refine⟨h.old,λ c H=>?_,?_⟩
  ·simp only[XE]at H;rcases H with H|H|H
   ·exact h.holds c zc
   ·exact⟨A.1.1 c H,λ k i=>A.2 k (Z4.2 ⟨c,H,i⟩)⟩
   ·exact h.holds c zc
  ·rw[YU,YU];refine⟨p.1,⟨A.1.2,q.2,λ c H d hd k i=>q.1 d hd k (Z4.2 ⟨c,H,i⟩)⟩,λ c H d hd k i g=>?_⟩;rcases XE.1 hd with hd|hd
   ·exact p.2.2 c H (lF ds) bw k i (Z4.2 ⟨d,hd,g⟩)
   ·exact p.2.2 c H d (by simp[hd]) k i g
 ·intro h;have p:=YU.1 h.apart;have q:=YU.1 p.2.1;refine⟨h.old,λ c H=>?_,?_⟩
  ·simp only[XE,Xr]at H;rcases H with H|rfl|H
   ·exact h.holds c zc
   ·refine⟨⟨λ c H=>(h.holds c zc).1,q.1⟩,λ k i=>?_⟩;obtain⟨c,H,i⟩:=Z4.1 i;exact(h.holds c zc).2 k i
   ·exact h.holds c zc
  ·rw[YU,XY];refine⟨p.1,⟨λ d hd k i g=>?_,q.2.1⟩,λ c H d hd k i g=>?_⟩
   ·obtain⟨c,H,i⟩:=Z4.1 i;exact q.2.2 c H d hd k i g
   ·rcases Xr.1 hd with rfl|hd
    ·obtain⟨d,hd,g⟩:=Z4.1 g;exact p.2.2 c H d (by simp[hd]) k i g
    ·exact p.2.2 c H d (by simp[hd]) k i g
def Sat.push{w0 w:World}{A ds:List Chunk}{d:Chunk}(h:Sat w0 (A++[d]) w)(i:Nat)(H:A[i]? =some (lF ds)):Sat w0 (A.set i (lF (ds++[d]))) w:=by
 obtain⟨l,hid⟩:=KC.1 H;have E:A=J i A++lF ds::ww (i+1) A:=by rw[<-hid];simp
 rw[E,KW,Zc,Sat.iN]at h;rw[YO,Xp l,Sat.iN];refine h.perm (Zb _ ?_);rw[KW];exact Zb _ ZP
section
variable {α:Type} {E:Enc α} {e:Nat} {w0 w:World} {cs:List Chunk}
def aZ(e:Nat)(E:Enc α)(ps:List (SV×List α)):Chunk:=lF (ps.map λ p=>cL p.1.val e E p.2)
def Sat.sU(h:Sat w0 cs w)(e:Nat)(E:Enc α):Sat w0 (cs++[aZ e E []]) w:=by
 have:Sat w0 (cs++lF []::[]) w:=Sat.iN.2 ra;exact this
def Sat.mJ{A:List Chunk}{s:SV}{l:List α}{ps:List (SV×List α)}(h:Sat w0 (A++[cL s.val e E l]) w)(i:Nat)(H:A[i]? =some (aZ e E ps)):Sat w0 (A.set i (aZ e E (ps++[(s,l)]))) w:=by
 have:=h.push i H;rw[aZ,Y0];exact this
theorem Sat.bt(h:Sat w0 cs w)(i:Nat){ps:List (SV×List α)}(H:cs[i]? =some (aZ e E ps)){k:Nat}{p:SV×List α}(d:ps[k]? =some p):RdL w p.1.val E p.2:=by
 have:=(h.get H).1 (cL p.1.val e E p.2) (Ye (Xs d));exact Rd.ry this
def bz(α:Type):Enc (SV×List α):=⟨1,λ p=>[p.1.val],λ _=>Y,λ p v h=>by simp at h;rw[h];rfl⟩
end
section
variable {P:Program} {n:Nat} {L:aA} {w:World} {K:Value->World->Prop} {d:Option Nat} {ty:TypeId} {pos:String} {af:Array Edge} {g:Option (Nat×Bool)}
def Ev.iR{x:Operand}{f:FuncId}{v:Value}(H:aM L x=some v):Ev P n L w ⟨d,.makeFunc (.func f) #[x] #[],ty,pos,af,g⟩ (.func (.func f) #[v] #[]):=.of λ ρ i=>by
 simp[execOp,Instr.makeFunc,i H,go_sem]
def OpE.xU{t:Nat}{f:FuncId}{i cap:Array Value}{X:List Operand}{A:Array TypeId}{vs:List Value}
  (p:Enters P f) (u:look L t=some (.func (.func f) i cap)) (y:pB L X=some vs) (h:CallsV P f (i.toList++vs++cap.toList) w K):OpE P n L w ⟨d,.call ⟨.value (.tmp t),X.toArray,A⟩,ty,pos,af,g⟩ K:=λ a l next Q q=>by
 have he:=l.BZ y;have k:a.eval (.tmp t)= .func (.func f) i cap:=l.eval u;have H:(execOp a.eval ⟨d,.call ⟨.value (.tmp t),X.toArray,A⟩,ty,pos,af,g⟩).run P w= .ok (.enter f (i.toList++vs++cap.toList).toArray) w:=by
  have r:X.toArray.map a.eval=vs.toArray:=a3b
  have:=p (i.toList++vs++cap.toList).toArray w;have o:i++vs.toArray++cap=(i.toList++vs++cap.toList).toArray:=bw
  simp only[execOp,resolve,r,k,Deferred.ofValue,bind,Sem.bind,pure,invoke,o];simpa only[Sem.run]using this
 simp only[Oper.wp,H,Oper.upon];refine YS h λ e W ⟨v,j,k⟩=>?_;subst j;exact q v W k
end
end Go.Kw
namespace Go.Kw
open Go.ChangeShapes Go.WideShapes Go.ChangeAt Go.RowKit
section
variable {H:Type} {enc:TypeId×Value->H} {P:Program} {w:World}
end
def pA{H:Type}{enc:TypeId×Value->H}{a:Assume}{C:Checked}{os:Os}{f:FuncId}{fn:Func}{s:ChangeSpec}{o:List PathCond}{A p g l:Bool}{X:World->Array Value->Prop}
  (hX:∀ (w w':World) (args:Array Value),w.heap=w'.heap->X w args->X w' args)
  (own:ownKnob C.prog.godebug=none) (q:os.Started) (N:C.prog.inits.idxOf? f=none) (R:C.prog.funcs[f]? =some fn)
  (r:∃ (w:World) (tape:Tape) (i:Input),w.os=os/\(w.forCall tape i).Shaped C.prog/\i.vars=[]/\Input.okWide C.prog (w.forCall tape i) .any w.heap.size f i/\
   ((s.pre enc C.prog fn o A (w.forCall tape i).memory i.args/\X (w.forCall tape i).memory i.args)/\sizedMet enc C.prog fn (OpenSpec.ofChange s) A (w.forCall tape i).memory i.args)/\a.holds C.prog (lone (Frame.enter C.prog f i.args .normal) [] (w.forCall tape i)))
  (k:∀ (W:World) (u:Nat) (args:Array Value) (ds Q:List (DataW H)) (d:List MemPlace),
   (∀ (j:Nat) t v,fn.params[j]? =some t->args[j]? =some v->Value.okWide C.prog W .any u t v)->
   DataW.Whole enc C.prog fn.params.toList s.vars A W args.toList ds Q d->X W args->W.ShapedOpen C.prog->
   Calls C.prog f args W λ e W'=>∃ v,e= .returned v/\s.post enc C.prog fn A p g l W args v W'):
  ReturnsInHanded a C os f .any (λ w args=>(s.pre enc C.prog fn o A w args/\X w args)/\sizedMet enc C.prog fn (OpenSpec.ofChange s) A w args) (s.post enc C.prog fn A p g l):=by
 refine returnsInHanded_of_calls own q N r ?_;intro w tape i _ a0 _ T D K;obtain⟨_,_,_,P,y,_,_,_,_,E⟩:=T;have e:P=fn:=Y8 (y.symm.trans R);subst e;obtain⟨⟨⟨ds,Q,d,hw,hc⟩,hx⟩,hz⟩:=D;have a1:=DataW.Whole.of_heap (w':=w.forCall tape i) a0M hw;refine(k (w.forCall tape i) w.heap.size i.args ds Q d E a1 (hX _ _ _ a0M hx) a0).mono λ e W' ⟨v,he,hp⟩=>?_;subst he;exact ChangeSpec.post_blind hp
