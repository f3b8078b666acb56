/-
 KM:full slices and appends to them,arrays as slices,array literals,results that lie in memory,bools compared,complements. Our own text;it names no program.
-/
import Derived.Test.YtcgidfgdbhihbaaGreatDoorKp
import Derived.Laws.BytesString
import Derived.Laws.Strings
import Derived.Laws.Cover1
import Derived.ScopeJumps
open List renaming length→I,take→J,drop→ww
set_option linter.all false
open Go.Proofs.YtcgidfgdbhihbaaGreatDoor
open List
namespace Go.Kw
open Go.RowKit
section
variable {P:Program} {n:Nat} {L:aA} {w w0:World} {cs:List Chunk} {K:Value->World->Prop} {d:Option Nat} {ty:TypeId} {pos:String} {af:Array Edge} {g:Option (Nat×Bool)} {α:Type} {E:Enc α}
def tP(size:Nat):Value->Value
 | .slice a m _=>.slice (if m=0 then a else a.map (·.add (0*size))) m m
 |_=>undef
theorem Rd.full{v:Value}{m:Nat}{d:List Value}(h:Rd w v m d)(size:Nat):Rd w (tP size v) m d:=by
 obtain⟨a,p,rfl,i,H⟩:=h;refine⟨_,m,Y,KM _,λ j u g=>?_⟩;obtain⟨b,o,rfl,hw⟩:=H j u g;split
 ·exact⟨b,o,Y,hw⟩
 ·exact⟨b,o+0*size,by simp[Yg],by rw[a0z,YP];exact hw⟩
def Qd(v:Value):Prop:=∃ a m,v= .slice a m m
theorem RdL.full{v:Value}{l:List α}(h:RdL w v E l):RdL w (tP E.s v) E l/\Qd (tP E.s v):=by
 refine⟨Rd.full h E.s,?_⟩;obtain⟨a,p,rfl,_⟩:=h;exact⟨_,_,Y⟩
def Ev.HS{x h m:Operand}{t e b:Nat}{z v:Value}{l:List α}{k K:IntKind}(y:SlTy P t e E.s z b)(u:aM L x=some v)(r:RdL w v E l)(o:aM L h=some (.int k (I l:Int)))(q:aM L m=some (.int K (I l:Int))):
  Ev P n L w ⟨d,.slice t x none (some h) (some m),ty,pos,af,g⟩ (tP E.s v):=.of λ ρ j=>by
 obtain⟨a,p,rfl,H,T⟩:=r;obtain⟨N,A,W,D,X⟩:=y.info;have Q:(0:Int)<=(I l:Int)/\(I l:Int)<=(p:Int):=O
 have R:(0:Int)<=(I l:Int)/\(I l:Int)<=(I l:Int):=O
 have i:∀ w:World,(Instr.sliceBounds true (I l) p none (some (.int k (I l:Int))) (some (.int K (I l:Int)))).run P w= .ok (0,I l,I l) w:=λ w=>by
  simp[Instr.sliceBounds,Instr.sliceBound,asIntOf,H,go_sem]
 simp only[execOp,j u,j o,j q,Instr.sliceAt,Instr.slice,XC,Xy y.und,Xw,a0v,Z6,i];simp[sizeOf,typeInfo,A,D,tP,go_sem]
def OpE.DM{x y:Operand}{t tx e b e':Nat}{z v u:Value}{l m:List α}(A:SlTy P t e E.s z b)(hs:Sat w0 cs w)(hx:aM L x=some v)(hy:aM L y=some u)(hv:RdL w v E l)(T:Qd v)
  (hk:P.underlying tx=some (.slice e')) (hr:RdL w u E m) (hm:0<I m) (a4:I l+I m<=140737488355328) (D:(I l+I m)*b<=140737488355328) (hc:∀ v' W,Sat w0 (cs++[cL v' e E (l++m)]) W->Chg [] w W->K v' W):
  OpE P n L w ⟨d,.call ⟨.builtin .append,#[x,y],#[t,tx]⟩,ty,pos,af,g⟩ K:=by
 obtain⟨i,i1,i2,i3,i4⟩:=A.info;have R:Src P E.s tx u (I m) (E.all m) w:=Src.Ms Y hk hr;obtain⟨a,a3,rfl,hn,H⟩:=id hv;obtain⟨a2,m2,T⟩:=T;cases T;have hf:∀ W:World,W.heap=w.heap->(Builtin.firstCells i.size (I l) (.slice a (I l) (I l))).run P W= .ok (E.all l).toArray W:=λ W a1=>by
  cases a with
  |none=>
   have N:E.all l=[]:=by
    cases hl:E.all l with
    |nil=>rfl
    |cons q r=>obtain⟨bb,o,D,_⟩:=H 0 q (by rw[hl];rfl);cases D
   rw[N];exact run_firstCells_none W i.size _ _ _
  |some a=>
   refine run_firstCells_some W i.size (I l) a _ _ (E.all l) (by rw[E.all_length,i3]) λ j u hu=>?_;obtain⟨bb,o,D,hw⟩:=H j u hu;cases D;rw[Yg];simp only[World.cell?,a1]at hw⊢;exact hw
 subst i4;have Q:=run_append_grow_src (P:=P) w t tx ty e i z A.und i1 i2 a (I l) (I l) (E.all l) (hf _ Y) u (I m) (E.all m) (by rw[i3];exact R) O O (growslice_fits O D);generalize p:(E.all l++E.all m).toArray++Builtin.zeroCells z.cells (grownCap w (I l+I m) (I l) e-(I l+I m))=row at Q;have hC:Chg [] w (w.drew.alloc (.cells row e)):=⟨Y,Y,Y,bw,λ k hk _=>heap_alloc_old w.drew _ hk⟩;refine .val (λ ρ hρ=>?_) (hc (.slice (some ⟨w.heap.size,0,none⟩) (I l+I m) (grownCap w (I l+I m) (I l) e)) _ (hs.add hC ?_ (by simp[cL,rI,ck])) hC)
 ·have h1:=hρ hx;have h2:=hρ hy;simp only[a0k,BigFrame.builtin_append];simp only[Zk,XZ,Zy,h1,h2,XC,Q,Xw,XG]
 ·have a0:=a2r w (I l+I m) (I l) e;have X:=grownCap_le_maxLen w (I l+I m) (I l) e a0B;refine⟨by rw[E.all_length],.inr ⟨_,grownCap w (I l+I m) (I l) e,_,?_,KD _,Zu w.drew _,by rw[AT];exact a0,X,?_,?_⟩⟩
  ·rw[AT];rfl
  ·rw[<-p];simp only[Array.size_append,ZW,size_zeroCells,A.zs,AT,E.all_length,<-Yc];congr 1;omega
  ·rw[E.all_append,<-p];simp only[Array.toList_append];have:I (E.all l++E.all m)=I (l++m)*E.s:=by rw[<-E.all_append,E.all_length]
   rw[<-this];exact a2b
def Ev.Mh{x:Operand}{T m e s b:Nat}(k:ArrTy P T m e s)(t:0<m)(p:aM L x=some (.pointer (some ⟨b,0,none⟩))):Ev P n L w ⟨d,.slice T x none none none,ty,pos,af,g⟩ (.slice (some ⟨b,0,none⟩) m m):=.of λ ρ q=>by
 have j:=k.size;cases H:P.info? e with
 |none=>simp[H]at j
 |some r=>
  simp[H]at j;have i:=λ w=>ic (P:=P) (isSl:=false) (len:=m) (cap:=m) (l:=0) (h:=m) (low:=none) (high:=none) Y Y (KD _) (KM _) w;have o:¬ m=0:=O
  simp only[execOp,q p,Instr.sliceAt,XC,Xy k.und,Xw,Instr.sureAddr,XG,a0v,i];simp[sizeOf,typeInfo,H,j,o,Yg,go_sem]
def Sat.W0(h:Sat w0 cs w)(i:Nat){b T:Nat}{l:List α}(H:cs[i]? =some (ai b T (E.all l))){m:Nat}(d:m=I l):RdL w (.slice (some ⟨b,0,none⟩) m m) E l:=by
 subst d;refine⟨some ⟨b,0,none⟩,I l,Y,KM _,λ j u g=>⟨b,0,Y,?_⟩⟩;rw[XU];exact h.cell H g
structure BuildAr(P:Program)(T m e:Nat)(zs:List Value):Prop where
 zero:(P.info? T).map (·.zero)=some (some (.agg zs.toArray))
 und:P.underlying T=some (.array m e)
 size:(P.info? e).map (·.size)=some 1
def setArr:List (Nat×Value)->List Value->Option (List Value)
 |[],zs=>some zs
 |(i,v)::r,zs=>cond (Nat.ble (i+1) (I zs)) (setArr r (zs.set i v)) none
def tQ:∀ (parts:List (Nat×Value)) (d out:List Value),oo parts->setArr parts d=some out->Instr.fill (λ i=>some (i*1,1)) d.toArray parts=some out.toArray
 |[],d,out,_,h=>by simp only[setArr,YB]at h;subst h;rfl
 |(i,v)::r,d,out,h1,h=>by
  have g:v.cells= #[v]:=by have:=h1.1;cases v<;>first|rfl|cases this
  unfold setArr at h;cases H:Nat.ble (i+1) (I d) with
  |false=>rw[H]at h;cases h
  |true=>
   rw[H]at h;have j:=XW H;have k:=tQ r (d.set i v) out h1.2 h;simp only[Instr.fill,g,Yj];simp only[ZW,No,Xv,XU,ne_eq,not_true,a1n,Bool.false_or,a1x];rw[Xn cf];simpa using k
def Ev.Mu{T m e:Nat}{y out:List Value}{parts:List (Nat×Operand)}{vs:List (Nat×Value)}(k:BuildAr P T m e y)(E:du L parts=some vs)(h1:oo vs)(D:setArr vs y=some out):
  Ev P n L w ⟨d,.build T parts.toArray,ty,pos,af,g⟩ (.agg out.toArray):=.of λ ρ N=>by
 have he:∀ (parts:List (Nat×Operand)) (vs:List (Nat×Value)),du L parts=some vs->parts.map (λ(i,x)=>(i,ρ x))=vs:=by
  intro parts;induction parts with
  |nil=>intro vs h;simp[du]at h;simp[h]
  |cons p r Q=>
   intro vs h;obtain⟨i,x⟩:=p;simp only[du,Zj,Yz]at h;obtain⟨v,K,W,t,rfl⟩:=h;simp[N K,Q W t]
 have u:=k.zero;have q:=k.size;have l:=tQ vs y out h1 D;cases o:P.info? T with
 |none=>simp[o]at u
 |some R=>
  cases H:P.info? e with
  |none=>simp[H]at q
  |some A=>
   simp[o]at u;simp[H]at q;have j:(Instr.build T vs.toArray).run P w= .ok (.agg out.toArray) w:=by
    simp only[Instr.build,zeroValue,typeInfo,XC];simp only[Yj]at l;simp[o,u,Xy k.und,sizeOf,typeInfo,H,q,Value.cells,l]
   simp only[execOp];rw[show(parts.toArray.map λ(i,x)=>(i,ρ x))=vs.toArray by rw[Zk,he parts vs E]];simp only[XC,j,Xw,XG]
def lV{T b:Nat}{vs:List Value}(d:dF P T (I vs)=true)(h:∀ j u,vs[j]? =some u->w.cell? ⟨b,j,none⟩=some u):(loadVar T ⟨b,0,none⟩).run P w= .ok (.agg vs.toArray) w:=by
 have l:=Ze (P:=P) w ⟨b,0,none⟩ vs (λ q u o=>by rw[Yg,XU];exact h q u o);have i:(isAgg T).run P w= .ok true w:=by
  unfold dF at d;cases H:P.underlying T with
  |none=>simp[H]at d
  |some D=>cases D<;>simp[H]at d<;>simp[isAgg,Xy H,go_sem]
 have k:(sizeOf T).run P w= .ok (I vs) w:=by
  unfold dF at d;cases H:P.underlying T with
  |none=>simp[H]at d
  |some D=>
   cases g:P.info? T with
   |none=>cases D<;>simp[H,g]at d
   |some p=>cases D<;>simp[H,g]at d<;>simp[sizeOf,typeInfo,g,d,go_sem]
 simp only[loadVar,XC,i,Xw,k,Z7,l,XG]
def cx{fn:Func}{Φ:Value->World->Prop}{t T b:Nat}{vs:List Value}(r:fn.results= #[.cell t T])(k:look L t=some (.pointer (some ⟨b,0,none⟩)))(d:dF P T (I vs)=true)(i:∀ j u,vs[j]? =some u->w.cell? ⟨b,j,none⟩=some u)
  (h:Φ (.agg vs.toArray) w):aE P n fn Φ L w:=λ a g=>by
 have H:=g.slot t _ k;refine⟨_,?_,h⟩;simp[results,r,Ys,H,asAddr,lV d i]
def Ju(t:TypeId)(a b:Bool)(h:P.underlying t=some .bool)(w:World):(binOp .eql t (.bool a) (.bool b)).run P w= .ok (.bool (a==b)) w:=by
 have:∀ d,(Op.equalIn (d+1) t (.bool a) (.bool b)).run P w= .ok (a==b) w:=λ d=>by simp[Op.equalIn,Xy h]
 simp only[binOp];simp[Op.equal,Op.maxDepth,this 9999]
def Ev.WQ{x y:Operand}{t T:TypeId}{a b:Bool}(u:P.underlying t=some .bool)(H:aM L x=some (.bool a))(i:aM L y=some (.bool b)):Ev P n L w ⟨d,.binOp .eql t x y T,ty,pos,af,g⟩ (.bool (a==b)):=
 .bin H i a0M λ w=>Ju t a b u w
def Ev.QX{x:Operand}{xt:TypeId}{a:Nat}(i:aM L x=some (.int .u32 (a:Int)))(l:a<4294967296):Ev P n L w ⟨d,.unOp .xor xt x,ty,pos,af,g⟩ (.int .u32 ((4294967295^^^a:Nat):Int)):=.of λ ρ j=>by
 have h:=Er (P:=P) (k:=.u32) Y (a:=4294967295) (b:=a) a0S a0S w;have H:IntKind.u32.max=((4294967295:Nat):Int):=bl
 simp only[execOp,j i,Op.unary,IntKind.signed,Yq,Yy,H,XC,h,Xw,XG]
end
section
variable {P:Program} {n:Nat} {fn:Func} {Φ:Value->World->Prop} {L:aA} {w:World}
def kP{t T b u s:Nat}{vs:List Value}{x y:Value}(r:fn.results= #[.cell t T,.tmp u,.tmp s])(o:look L t=some (.pointer (some ⟨b,0,none⟩)))(p:look L u=some x)(q:look L s=some y)(k:dF P T (I vs)=true)(l:∀ j u,vs[j]? =some u->w.cell? ⟨b,j,none⟩=some u)
  (h:Φ (.tuple #[.agg vs.toArray,x,y]) w):aE P n fn Φ L w:=λ a H=>by
 have d:=H.slot t _ o;have g:=H.slot u _ p;have i:=H.slot s _ q;refine⟨_,?_,h⟩;simp[results,r,Ys,d,g,i,asAddr,lV k l]
end
section
variable {P:Program} {n:Nat} {L:aA} {w w0:World} {cs:List Chunk} {K:Value->World->Prop} {d:Option Nat} {ty:TypeId} {pos:String} {af:Array Edge} {g:Option (Nat×Bool)} {α:Type} {E:Enc α}
def OpE.gh{t e b m:Nat}{z:Value}{parts:List (Nat×Operand)}{vs:List (Nat×Value)}(E:Enc α)(l:List α)(y:SlTy P t e 1 z b)(hp:du L parts=some vs)(h1:oo vs)(T:z.oneCell'=true)(ho:Kw.setArr vs (List.replicate m z)=some (E.all l))(hl:I l=m)(A:E.s=1)(N:m≠0)(hm:m<=16777216)(hs:Sat w0 cs w)
  (hk:∀ u X,Sat w0 (cs++[cL u e E l]) X->Chg [] w X->K u X):OpE P n L w ⟨d,.buildSlice t m parts.toArray,ty,pos,af,g⟩ K:=by
 obtain⟨a0,i1,i2,i3,i4⟩:=y.info;have he:∀ ρ:Operand->Value,(∀ {x u},aM L x=some u->ρ x=u)->∀ (parts:List (Nat×Operand)) (vs:List (Nat×Value)),du L parts=some vs->parts.map (λ(i,x)=>(i,ρ x))=vs:=by
  intro ρ W parts;induction parts with
  |nil=>intro vs h;simp[du]at h;simp[h]
  |cons p r ih=>
   intro vs h;obtain⟨i,x⟩:=p;simp only[du,Zj,Yz]at h;obtain⟨v,hv,us,Q,rfl⟩:=h;simp[W hv,ih us Q]
 have R:z.cells= #[z]:=by cases z<;>first|rfl|cases T
 have H:=tQ vs (List.replicate m z) (E.all l) h1 ho;have j:I (E.all l)=m:=by rw[E.all_length,A,hl,Yj]
 have o:(Array.range m).map (λ q=>z.cells[q%z.cells.size]!)=(List.replicate m z).toArray:=by
  rw[R];apply a18;apply a01
  ·simp
  ·intro i _ _;simp[Nat.mod_one]
 have k:(Instr.buildSlice t m vs.toArray).run P w= .ok (.slice (some ⟨w.heap.size,0,none⟩) m m) (w.alloc (.cells (E.all l).toArray e)):=by
  simp only[Yj]at H;have D:¬ 2^24<m:=O
  have r1:(zeroValue e).run P w= .ok z w:=by simp[zeroValue,typeInfo,i1,i2,go_sem]
  have r2:(sizeOf e).run P w= .ok 1 w:=by simp[sizeOf,typeInfo,i1,i3,go_sem]
  have r3:(newRow e (E.all l).toArray).run P w= .ok ⟨w.heap.size,0,none⟩ (w.alloc (.cells (E.all l).toArray e)):=a2N
  simp only[Instr.buildSlice,Xy y.und,r2,XC,Xw,Yj,a1x,D,N,Yy,r1,XG,o,H,r3]
 refine .val (λ ρ W=>?_) (hk (.slice (some ⟨w.heap.size,0,none⟩) m m) (w.alloc (.cells (E.all l).toArray e)) ?_ (.alloc _ _))
 ·simp only[execOp];rw[show(parts.toArray.map λ(i,x)=>(i,ρ x))=vs.toArray by rw[Zk,he ρ W parts vs hp]];simp only[XC,k,Xw,XG]
 ·have h:=hs.vG e E.s m m (E.all l) a0B (KM _) (by rw[j,A,Yj]);rw[A,Yj,Xx O]at h;unfold cL;rw[hl,A];exact h
end
section
variable {P:Program} {n:Nat} {L:aA} {w w0:World} {cs:List Chunk} {K:Value->World->Prop} {d:Option Nat} {ty:TypeId} {pos:String} {af:Array Edge} {g:Option (Nat×Bool)}
structure VV where
 a:Value
 b:Value
 ha:a.oneCell'=true
 hb:b.oneCell'=true
def lW:Enc VV:=⟨2,λ x=>[x.a,x.b],λ _=>Y,λ x u h=>by
 simp only[Xr,Xq,XA]at h;rcases h with rfl|rfl
 ·exact x.ha
 ·exact x.hb⟩
end
section
variable {P:Program} {n:Nat} {fn:Func} {Φ:Value->World->Prop} {L:aA} {w:World}
end
def strOf(l:List Nat):ByteArray:=⟨(l.map λ n=>UInt8.ofNat n).toArray⟩
def cA(l:List Nat):(strOf l).size=I l:=by simp[strOf,ByteArray.size]
def foldl_push(l:List Nat):∀ r:ByteArray,(l.map λ n=>((n:Nat):Int)).foldl (λ r n=>r.push (UInt8.ofNat n.toNat)) r=⟨r.data++(l.map λ n=>UInt8.ofNat n).toArray⟩:=by
 induction l with
 |nil=>intro r;simp
 |cons b l i=>intro r;simp only[XZ,Zg];rw[i];simp[ByteArray.push]
def H7{a b:List Nat}(g:∀ x∈a,x<256)(i:∀ x∈b,x<256):strOf a=strOf b↔a=b:=by
 refine⟨λ h=>?_,λ h=>by rw[h]⟩;have d:a.map (λ n=>UInt8.ofNat n)=b.map (λ n=>UInt8.ofNat n):=by
  have:=If (λ s:ByteArray=>s.data.toList) h;simpa[strOf]using this
 have H:=If (List.map UInt8.toNat) d;rw[ZT,ZT]at H;have e:∀ l:List Nat,(∀ x∈l,x<256)->l.map (UInt8.toNat∘λ n=>UInt8.ofNat n)=l:=λ l j=>by
  conv=>rhs;rw[<-map_id l]
  refine Zl λ x k=>?_;have:=j x k;simp[UInt8.toNat_ofNat,XN this]
 rwa[e a g,e b i]at H
def H8(l:List Nat):(a7 .u8).all l=(l.map λ n=>((n:Nat):Int)).map (Value.int .u8):=by
 induction l with
 |nil=>rfl
 |cons y r i=>rw[Enc.all_cons,XZ,XZ];exact If (Value.int .u8 ((y:Nat):Int):: ·) i
def yp{a b:ByteArray}:(a.toList==b.toList)=decide (a=b):=by
 have h:a.toList=b.toList↔a=b:=⟨λ h=>by
  rw[ZJ,ZJ]at h;obtain⟨⟨x⟩⟩:=a;obtain⟨⟨y⟩⟩:=b;simp at h;rw[h],λ h=>by rw[h]⟩
 by_cases H:a=b
 ·subst H;simp
 ·rw[IN H];simp;exact λ d=>H (h.1 d)
section
variable {P:Program} {n:Nat} {L:aA} {w w0:World} {cs:List Chunk} {K:Value->World->Prop} {d:Option Nat} {ty:TypeId} {pos:String} {af:Array Edge} {g:Option (Nat×Bool)}
def Ev.dr{x:Operand}{s t e:TypeId}{v:Value}{l:List Nat}(N:P.underlying s=some (.slice e))(Q:P.underlying t=some .string)(he:P.underlying e=some (.int .u8))(T:aM L x=some v)(h:RdL w v (a7 .u8) l):
  Ev P n L w ⟨d,.convert s t x,ty,pos,af,g⟩ (.string (strOf l)):=.of λ ρ W=>by
 obtain⟨a,p,rfl,X,A⟩:=h;have k:(convert s t (.slice a (I l) p)).run P w= .ok (.string (strOf l)) w:=by
  rw[run_convert_bytes_string w s t e a (I l) p N he Q];have H:=H8 l;cases a with
  |none=>
   have K:l=[]:=by
    cases l with
    |nil=>rfl
    |cons y r=>obtain⟨b,o,D,_⟩:=A 0 (.int .u8 ((y:Nat):Int)) (by rw[Enc.all_cons];rfl);cases D
   subst K;simp[Conv.bytesToString,XG];rfl
  |some a=>
   have j:I ((a7 .u8).all l)=I l:=by rw[(a7 .u8).all_length];exact Yj _
   have i:=Ze (P:=P) w a ((a7 .u8).all l) λ q u R=>by
    obtain⟨b,o,E,hw⟩:=A q u R;cases E;rw[Yg];exact hw
   rw[j,H]at i;rw[run_bytesToString w a (I l) p _ i,foldl_push];simp[strOf]
 simp only[execOp,W T];simp[k]
def Ev.cN{x y:Operand}{t T:TypeId}{a b:ByteArray}(H:aM L x=some (.string a))(i:aM L y=some (.string b)):Ev P n L w ⟨d,.binOp .eql t x y T,ty,pos,af,g⟩ (.bool (decide (a=b))):=
 .bin H i a0M λ w=>by rw[binOp_string_eql,yp];rfl
def Ev.ej{x y:Operand}{t T:TypeId}{a b:ByteArray}(H:aM L x=some (.string a))(i:aM L y=some (.string b)):Ev P n L w ⟨d,.binOp .neq t x y T,ty,pos,af,g⟩ (.bool (decide (a≠b))):=
 .bin H i a0M λ w=>by rw[binOp_string_neq,yp,<-decide_not];rfl
end
section
variable {P:Program} {n:Nat} {N R:aA->World->Prop} {X G:List (Nat×(aA->World->Prop))} {L:aA} {w:World}
def CW.MD{l:Nat}{j:aA->World->Prop}(h:j L w):CW P n (.goto l) ⟨N,R,X,(l,j)::G⟩ L w:=CW.W9 (by simp only[cS,Xp];exact h)
def CW.scope{c r:Code}(l:Nat)(j:aA->World->Prop)(t:findLabel c l=some r)(h:CW P n c ⟨N,R,X,[(l,j)]⟩ L w)(p:∀ d W,j d W->CW P n r ⟨N,R,X,[]⟩ d W):CW P n (.scope c) ⟨N,R,X,[]⟩ L w:=λ a o=>by
 refine wp_scope_jumps l (λ a w=>∃ L,Fits n L a/\j L w) (λ _ _=>0) t (a0p (h a o) λ e A W q=>?_) λ a w i=>?_
 ·cases e with
  |goto k=>
   obtain⟨d,g,H⟩:=q;simp only[cS]at H;by_cases e:l=k
   ·subst e;rw[Xp Y]at H;exact⟨Y,d,g,H⟩
   ·rw[Xn e]at H;exact H.elim
  |normal=>exact q
  |ret=>exact q
  |exit id=>exact q
  |panic c=>exact q
  |outgrown=>exact q
 ·obtain⟨d,g,i⟩:=i;refine a0p (p d w i a g) λ e A W q=>?_;cases e with
  |goto k=>obtain⟨d,g,H⟩:=q;exact(H:False).elim
  |normal=>exact q
  |ret=>exact q
  |exit id=>exact q
  |panic c=>exact q
  |outgrown=>exact q
end
section
variable {P:Program} {n:Nat} {L:aA} {w w0:World} {cs:List Chunk} {K:Value->World->Prop} {d:Option Nat} {ty:TypeId} {pos:String} {af:Array Edge} {g:Option (Nat×Bool)}
def Ev.DQ{T:TypeId}{pl:List (Nat×Nat)}{t out:List Value}{parts:List (Nat×Operand)}{vs:List (Nat×Value)}(u:BuildTy P T pl t)(A:du L parts=some vs)(y:Instr.fill (λ i=>pl.toArray[i]?) t.toArray vs=some out.toArray):
  Ev P n L w ⟨d,.build T parts.toArray,ty,pos,af,g⟩ (.agg out.toArray):=.of λ ρ K=>by
 have he:∀ (parts:List (Nat×Operand)) (vs:List (Nat×Value)),du L parts=some vs->parts.map (λ(i,x)=>(i,ρ x))=vs:=by
  intro parts;induction parts with
  |nil=>intro vs h;simp[du]at h;simp[h]
  |cons p r N=>
   intro vs h;obtain⟨i,x⟩:=p;simp only[du,Zj,Yz]at h;obtain⟨v,E,R,o,rfl⟩:=h;simp[K E,N R o]
 obtain⟨W,D,l⟩:=u.und;have q:=u.zero;cases k:P.info? T with
 |none=>simp[k]at q
 |some Q=>
  simp[k]at q;have j:(Instr.build T vs.toArray).run P w= .ok (.agg out.toArray) w:=by
   simp only[Instr.build,zeroValue,typeInfo,XC];simp[k,q,Xy D];have:=l w;simp at this;have H:Instr.fill (λ x=>pl[x]?) t.toArray vs=some out.toArray:=a1M
   simp[this,Value.cells,H]
  simp only[execOp];rw[show(parts.toArray.map λ(i,x)=>(i,ρ x))=vs.toArray by rw[Zk,he parts vs A]];simp only[XC,j,Xw,XG]
end
def ib(b T:Nat)(d:List Nat)(S:List (SV×List Nat))(lo:Nat):Chunk:=ai b T ((a7 .u64).all d++(bz Nat).all S++[.int .i64 (lo:Int)])
def Wo(d:List Nat){j x:Nat}(h:d[j]? =some x):((a7 .u64).all d)[j]? =some (.int .u64 (x:Int)):=by
 have:=(a7 .u64).all_get h (off:=0) bl;rw[show j*(a7 .u64).s+0=j from by simp[a7]]at this;rw[this];rfl
def Wp(S:List (SV×List Nat)){j:Nat}{p:SV×List Nat}(h:S[j]? =some p):((bz Nat).all S)[j]? =some p.1.val:=by
 have:=(bz Nat).all_get h (off:=0) bl;rw[show j*(bz Nat).s+0=j from by simp[bz]]at this;rw[this];rfl
def vQ(d:List Nat):I ((a7 .u64).all d)=I d:=by rw[(a7 .u64).all_length];exact Yj _
def H9(S:List (SV×List Nat)):I ((bz Nat).all S)=I S:=by rw[(bz Nat).all_length];exact Yj _
def Wq(d:List Nat){j x:Nat}(h:j<I d):((a7 .u64).all d).set j (.int .u64 (x:Int))=(a7 .u64).all (d.set j x):=by
 have:=sC (E:=a7 .u64) (l:=d) (j:=j) (a:=x) (u:=.int .u64 (x:Int)) Y h;rwa[show j*(a7 .u64).s=j from by simp[a7]]at this
def Wr(S:List (SV×List Nat)){j:Nat}{p:SV×List Nat}(h:j<I S):((bz Nat).all S).set j p.1.val=(bz Nat).all (S.set j p):=by
 have:=sC (E:=bz Nat) (l:=S) (j:=j) (a:=p) (u:=p.1.val) Y h;rwa[show j*(bz Nat).s=j from by simp[bz]]at this
section
variable {w0 w:World} {cs:List Chunk}
def Av{d:List Nat}{S:List (SV×List Nat)}{lo j x:Nat}(h:d[j]? =some x):((a7 .u64).all d++(bz Nat).all S++[.int .i64 (lo:Int)])[j]? =some (.int .u64 (x:Int)):=by
 have H:=(KC.1 h).1;rw[KW,XK (by rw[vQ];exact H)];exact Wo d h
def Aw{d:List Nat}{S:List (SV×List Nat)}{lo j:Nat}{p:SV×List Nat}(H:I d=16)(h:S[j]? =some p):((a7 .u64).all d++(bz Nat).all S++[.int .i64 (lo:Int)])[16+j]? =some p.1.val:=by
 have g:=(KC.1 h).1;rw[KW,XP (by rw[vQ,H];omega),vQ,H,Yk,XK (by rw[H9];exact g)];exact Wp S h
def Ax{d:List Nat}{S:List (SV×List Nat)}{lo:Nat}(H:I d=16)(g:I S=16):((a7 .u64).all d++(bz Nat).all S++[.int .i64 (lo:Int)])[32]? =some (.int .i64 (lo:Int)):=by
 rw[XP (by rw[AT,vQ,H9];omega),AT,vQ,H9,H,g];rfl
def Sat.Q4(g:Sat w0 cs w)(i:Nat){b T lo j x:Nat}{d:List Nat}{S:List (SV×List Nat)}(H:cs[i]? =some (ib b T d S lo))(h:d[j]? =some x):w.cell? ⟨b,0+j*1,none⟩=some (.int .u64 (x:Int)):=by
 rw[XU,Yj];exact g.cell H (Av h)
def Sat.HT(k:Sat w0 cs w)(i:Nat){b T lo j:Nat}{d:List Nat}{S:List (SV×List Nat)}{p:SV×List Nat}(g:cs[i]? =some (ib b T d S lo))(H:I d=16)(h:S[j]? =some p):w.cell? ⟨b,16+j*1,none⟩=some p.1.val:=by
 rw[Yj];exact k.cell g (Aw H h)
theorem Sat.tabN(k:Sat w0 cs w)(i:Nat){b T lo:Nat}{d:List Nat}{S:List (SV×List Nat)}(j:cs[i]? =some (ib b T d S lo))(H:I d=16)(g:I S=16):w.cell? ⟨b,32,none⟩=some (.int .i64 (lo:Int)):=k.cell j (Ax H g)
def tR{α:Type}{l:List α}{j:Nat}{x y:α}(h:l[j]? =some x):(l.eraseIdx j++[y]).Perm (l.set j y):=by
 obtain⟨H,rfl⟩:=KC.1 h;rw[eraseIdx_eq_take_drop_succ,YO,Xp H,KW];exact Zb _ ZP
def Sat.C2{A ds E:List Chunk}(h:Sat w0 A w)(i:Nat)(H:A[i]? =some (lF ds))(p:ds.Perm E):Sat w0 (A.set i (lF E)) w:=by
 obtain⟨l,hid⟩:=KC.1 H;have d:A=J i A++lF ds::ww (i+1) A:=by rw[<-hid];simp
 rw[d,Sat.iN]at h;rw[YO,Xp l,Sat.iN];exact h.perm (Zb _ (a1l _ p))
def Sat.pull{A ds:List Chunk}{d:Chunk}(h:Sat w0 A w)(i:Nat)(H:A[i]? =some (lF (ds++[d]))):Sat w0 (A.set i (lF ds)++[d]) w:=by
 obtain⟨l,hid⟩:=KC.1 H;have E:A=J i A++lF (ds++[d])::ww (i+1) A:=by rw[<-hid];simp
 rw[E,Sat.iN]at h;rw[YO,Xp l,KW,Zc,Sat.iN];refine h.perm (Zb _ ?_);rw[KW];exact Zb _ ZP
variable {α:Type} {E:Enc α} {e:Nat}
def Sat.zt{A:List Chunk}{ps:List (SV×List α)}{p:SV×List α}{j:Nat}(h:Sat w0 A w)(i:Nat)(o:A[i]? =some (aZ e E ps))(hj:ps[j]? =some p):Sat w0 (A.set i (aZ e E (ps.eraseIdx j))++[cL p.1.val e E p.2]) w:=by
 have l:=(KC.1 o).1;have k:(ps.map λ p=>cL p.1.val e E p.2).Perm ((ps.eraseIdx j).map (λ p=>cL p.1.val e E p.2)++[cL p.1.val e E p.2]):=by
  have d:(ps.eraseIdx j++[p]).Perm ps:=by
   have:=tR (y:=p) hj;obtain⟨q,g⟩:=KC.1 hj;rw[<-g]at this⊢;rwa[ZO]at this
  have H:=(d.map λ p=>cL p.1.val e E p.2).symm;rw[Y0]at H;exact H
 have d:=h.C2 i o k;have H:=d.pull i (by rw[Yi l]);rw[a09]at H;exact H
def Sat.FE{A:List Chunk}{ps:List (SV×List α)}{s:SV}{l:List α}{j:Nat}(h:Sat w0 (A++[cL s.val e E l]) w)(i:Nat)(k:A[i]? =some (aZ e E (ps.eraseIdx j)))(hj:j<I ps):Sat w0 (A.set i (aZ e E (ps.set j (s,l)))) w:=by
 have d:=(KC.1 k).1;have o:=h.push i k;have g:((ps.eraseIdx j).map (λ p=>cL p.1.val e E p.2)++[cL s.val e E l]).Perm ((ps.set j (s,l)).map λ p=>cL p.1.val e E p.2):=by
  have H:=(tR (l:=ps) (j:=j) (y:=(s,l)) (py hj)).map λ p=>cL p.1.val e E p.2;rw[Y0]at H;exact H
 have H:=o.C2 i (by rw[Yi d]) g;rw[a09]at H;exact H
def Sat.sV(h:Sat w0 cs w)(e:Nat)(E:Enc α):∀ k,Sat w0 (cs++[aZ e E (List.replicate k (⟨none,0,0⟩,[]))]) w
 |0=>h.sU e E
 |k+1=>by
  have d:=(Sat.sV h e E k).aC e E;have H:=Sat.mJ (A:=cs++[aZ e E (List.replicate k (⟨none,0,0⟩,[]))]) (s:=⟨none,0,0⟩) (l:=[]) (ps:=List.replicate k (⟨none,0,0⟩,[])) d (I cs) bw;rw[Y2 _ _ (KM _),Y4]at H;rw[replicate_succ'];exact H
variable {P:Program} {n:Nat} {L:aA} {K:Value->World->Prop} {d:Option Nat} {ty:TypeId} {pos:String} {af:Array Edge} {g:Option (Nat×Bool)}
def OpE.PT{x y:Operand}{T U b j a lo:Nat}{k:List Nat}{S:List (SV×List Nat)}(i:Nat)(p:(P.info? T).map (·.size)=some 1)(t:Sat w0 cs w)(q:cs[i]? =some (ib b U k S lo))(l:aM L x=some (.pointer (some ⟨b,0+j*1,none⟩)))
  (u:aM L y=some (.int .u64 (a:Int))) (hj:j<I k) (r:∀ W,Sat w0 (cs.set i (ib b U (k.set j a) S lo)) W->Chg [b] w W->K undef W):OpE P n L w ⟨d,.store T x y,ty,pos,af,g⟩ K:=by
 rw[XU,Yj]at l;refine OpE.aG p t q l u Y (Av (py hj)) λ W H o=>r W ?_ o;rw[KW,a0i _ _ (by rw[vQ];exact hj),Wq k hj,<-KW]at H;exact H
def OpE.FH{x y:Operand}{T U b j lo:Nat}{k:List Nat}{S:List (SV×List Nat)}(p:SV×List Nat)(i:Nat)(r:(P.info? T).map (·.size)=some 1)(A:Sat w0 cs w)(t:cs[i]? =some (ib b U k S lo))(o:aM L x=some (.pointer (some ⟨b,16+j*1,none⟩)))
  (D:aM L y=some p.1.val) (H:I k=16) (hj:j<I S) (u:∀ W,Sat w0 (cs.set i (ib b U k (S.set j p) lo)) W->Chg [b] w W->K undef W):OpE P n L w ⟨d,.store T x y,ty,pos,af,g⟩ K:=by
 rw[Yj]at o;refine OpE.aG r A t o D Y (Aw H (py hj)) λ W l q=>u W ?_ q;rw[KW,Y2 _ _ (by rw[vQ,H];omega),vQ,H,Yk,a0i _ _ (by rw[H9];exact hj),Wr S hj,<-KW]at l;exact l
def OpE.FF{x y:Operand}{T U b a lo:Nat}{j:List Nat}{S:List (SV×List Nat)}(i:Nat)(o:(P.info? T).map (·.size)=some 1)(r:Sat w0 cs w)(p:cs[i]? =some (ib b U j S lo))(u:aM L x=some (.pointer (some ⟨b,32,none⟩)))
  (A:aM L y=some (.int .i64 (a:Int))) (H:I j=16) (k:I S=16) (q:∀ W,Sat w0 (cs.set i (ib b U j S a)) W->Chg [b] w W->K undef W):OpE P n L w ⟨d,.store T x y,ty,pos,af,g⟩ K:=by
 refine OpE.aG o r p u A Y (Ax H k) λ W t l=>q W ?_ l;rw[Y2 _ _ (by rw[AT,vQ,H9];omega),AT,vQ,H9,H,k]at t;exact t
end
section
variable {P:Program} {n:Nat} {L:aA} {w:World} {d:Option Nat} {ty:TypeId} {pos:String} {af:Array Edge} {g:Option (Nat×Bool)}
def Jv(t:TypeId)(a b:Bool)(h:P.underlying t=some .bool)(w:World):(binOp .neq t (.bool a) (.bool b)).run P w= .ok (.bool (!(a==b))) w:=by
 have:∀ d,(Op.equalIn (d+1) t (.bool a) (.bool b)).run P w= .ok (a==b) w:=λ d=>by simp[Op.equalIn,Xy h]
 simp only[binOp];simp[Op.equal,Op.maxDepth,this 9999]
def Ev.W4{x y:Operand}{t T:TypeId}{a b:Bool}(u:P.underlying t=some .bool)(H:aM L x=some (.bool a))(i:aM L y=some (.bool b)):Ev P n L w ⟨d,.binOp .neq t x y T,ty,pos,af,g⟩ (.bool (!(a==b))):=
 .bin H i a0M λ w=>Jv t a b u w
end
section
variable {P:Program} {n:Nat} {fn:Func} {Φ:Value->World->Prop} {L:aA} {w:World}
def gm{t T b u:Nat}{vs:List Value}{x:Value}(r:fn.results= #[.cell t T,.tmp u])(l:look L t=some (.pointer (some ⟨b,0,none⟩)))(o:look L u=some x)(i:dF P T (I vs)=true)(k:∀ j u,vs[j]? =some u->w.cell? ⟨b,j,none⟩=some u)
  (h:Φ (.tuple #[.agg vs.toArray,x]) w):aE P n fn Φ L w:=λ a H=>by
 have d:=H.slot t _ l;have g:=H.slot u _ o;refine⟨_,?_,h⟩;simp[results,r,Ys,d,g,asAddr,lV i k]
end
section
variable {P:Program} {n:Nat} {L:aA} {w:World} {d:Option Nat} {ty:TypeId} {pos:String} {af:Array Edge} {g:Option (Nat×Bool)}
def Ws{s:ByteArray}{j:Nat}{b:UInt8}(h:s.data.toList[j]? =some b):s[j]? =some b:=by
 obtain⟨d,rfl⟩:=KC.1 h;have H:j<s.size:=a0I
 rw[getElem?_pos s j H];rfl
def Ev.eY{x i:Operand}{t:TypeId}{s:ByteArray}{j:Nat}{b:UInt8}(q:P.underlying t=some .string)(r:aM L x=some (.string s))(p:aM L i=some (.int .i64 (j:Int)))(o:s.data.toList[j]? =some b):
  Ev P n L w ⟨d,.index t x i,ty,pos,af,g⟩ (.int .u8 ((b.toNat:Nat):Int)):=.of λ ρ k=>by
 have H:=Ws o;have l:(0:Int)<=(j:Int):=O
 simp only[execOp,k r,k p];simp[Instr.index,asIntOf,Xy q,H,l,go_sem]
end
section
variable {P:Program} {n:Nat} {ops:List Oper} {K:aA->World->Prop} {L:aA} {w:World} {S:World->Prop} {SS:List (World->Prop)} {p q:Plan}
end
