/-
 KM:full slices and appends to them,arrays as slices,array literals,results that lie in memory,bools compared,complements. Our own text;it names no program.
-/
import Derived.Test.YthffkcnbdehceaaGreatKp
import Derived.Laws.BytesString
import Derived.Laws.Strings
import Derived.Laws.Cover1
import Derived.Test.YthffkcnbdehceaaGreatM13
import Derived.MapKept
import Derived.Maps.RangeRun
import Derived.RangeFuncLeaves
import Derived.RangeFuncCalls
import Derived.RangeFuncSeq
import Derived.ScopeJumps
import Derived.Laws.Concat
set_option linter.all false
open Go.Proofs.YthffkcnbdehceaaGreat
open List
namespace Go.Kw
open Go.RowKit
section
variable {P:Program} {n:Nat} {L:aA} {w w0:World} {cs:List Chunk} {K:Value->World->Prop} {d:Option Nat} {ty:TypeId} {pos:String} {af:Array Edge} {g:Option (Nat×Bool)} {α:Type} {E:Enc α}
def rI(size:Nat):Value->Value
 | .slice a m _=>.slice (if m=0 then a else a.map (·.add (0*size))) m m
 |_=>undef
theorem Rd.full{v:Value}{m:Nat}{cells:List Value}(h:Rd w v m cells)(size:Nat):Rd w (rI size v) m cells:=by
 obtain⟨a,cap,rfl,hn,hc⟩:=h;refine⟨_,m,Y,KD _,λ j u hu=>?_⟩;obtain⟨b,o,rfl,hw⟩:=hc j u hu;split
 ·exact⟨b,o,Y,hw⟩
 ·exact⟨b,o+0*size,by simp[Sz],by rw[UF,T7];exact hw⟩
def Me(v:Value):Prop:=∃ a m,v= .slice a m m
theorem RdL.full{v:Value}{l:List α}(h:RdL w v E l):RdL w (rI E.s v) E l/\Me (rI E.s v):=by
 refine⟨Rd.full h E.s,?_⟩;obtain⟨a,cap,rfl,_⟩:=h;exact⟨_,_,Y⟩
def Ev.Ft{x h m:Operand}{t e b:Nat}{z v:Value}{l:List α}{k k':IntKind}(hty:SlTy P t e E.s z b)(hx:aJ L x=some v)(hr:RdL w v E l)(hh:aJ L h=some (.int k (l.length:Int)))(hm:aJ L m=some (.int k' (l.length:Int))):
  Ev P n L w ⟨d,.slice t x none (some h) (some m),ty,pos,af,g⟩ (rI E.s v):=.of λ ρ hρ=>by
 obtain⟨a,cap,rfl,hmc,hc⟩:=hr;obtain⟨inf,i1,i2,i3,i4⟩:=hty.info;have h1:(0:Int)<=(l.length:Int)/\(l.length:Int)<=(cap:Int):=by omega
 have h2:(0:Int)<=(l.length:Int)/\(l.length:Int)<=(l.length:Int):=by omega
 have hsb:∀ w:World,(Instr.sliceBounds true l.length cap none (some (.int k (l.length:Int))) (some (.int k' (l.length:Int)))).run P w= .ok (0,l.length,l.length) w:=λ w=>by
  simp[Instr.sliceBounds,Instr.sliceBound,asIntOf,hmc,go_sem]
 simp only[execOp,hρ hx,hρ hh,hρ hm,Instr.sliceAt,Instr.slice,RA,Rt hty.und,Rs,UB,T9,hsb];simp[sizeOf,typeInfo,i1,i3,rI,go_sem]
def OpE.BU{x y:Operand}{t tx e b e':Nat}{z v u:Value}{l m:List α}(hty:SlTy P t e E.s z b)(hs:Sat w0 cs w)(hx:aJ L x=some v)(hy:aJ L y=some u)(hv:RdL w v E l)(hF:Me v)
  (hk:P.underlying tx=some (.slice e')) (hr:RdL w u E m) (hm:0<m.length) (h63:l.length+m.length<=140737488355328) (hb:(l.length+m.length)*b<=140737488355328) (hc:∀ v' w',Sat w0 (cs++[cL v' e E (l++m)]) w'->Chg [] w w'->K v' w'):
  OpE P n L w ⟨d,.call ⟨.builtin .append,#[x,y],#[t,tx]⟩,ty,pos,af,g⟩ K:=by
 obtain⟨inf,i1,i2,i3,i4⟩:=hty.info;have hsrc:Src P E.s tx u m.length (E.all m) w:=Src.J8 Y hk hr;obtain⟨a,cap,rfl,hn,hcell⟩:=id hv;obtain⟨a2,m2,hF⟩:=hF;cases hF;have hf:∀ w':World,w'.heap=w.heap->(Builtin.firstCells inf.size l.length (.slice a l.length l.length)).run P w'= .ok (E.all l).toArray w':=λ w' hw'=>by
  cases a with
  |none=>
   have hnil:E.all l=[]:=by
    cases hl:E.all l with
    |nil=>rfl
    |cons q r=>obtain⟨bb,o,hb,_⟩:=hcell 0 q (by rw[hl];rfl);cases hb
   rw[hnil];exact run_firstCells_none w' inf.size _ _ _
  |some a=>
   refine run_firstCells_some w' inf.size l.length a _ _ (E.all l) (by rw[E.all_length,i3]) λ j u hu=>?_;obtain⟨bb,o,hb,hw⟩:=hcell j u hu;cases hb;rw[Sz];simp only[World.cell?,hw']at hw⊢;exact hw
 subst i4;have hr2:=run_append_grow_src (P:=P) w t tx ty e inf z hty.und i1 i2 a l.length l.length (E.all l) (hf _ Y) u m.length (E.all m) (by rw[i3];exact hsrc) (by omega) (by omega) (growslice_fits (by omega) hb);generalize hrow:(E.all l++E.all m).toArray++Builtin.zeroCells z.cells (grownCap w (l.length+m.length) l.length e-(l.length+m.length))=row at hr2;have hC:Chg [] w (w.drew.alloc (.cells row e)):=⟨Y,Y,Y,by simp,λ k hk _=>heap_alloc_old w.drew _ hk⟩;refine .val (λ ρ hρ=>?_) (hc (.slice (some ⟨w.heap.size,0,none⟩) (l.length+m.length) (grownCap w (l.length+m.length) l.length e)) _ (hs.add hC ?_ (by simp[cL,pV,bT])) hC)
 ·have h1:=hρ hx;have h2:=hρ hy;simp only[Uq,BigFrame.builtin_append];simp only[TM,Sg,U3,h1,h2,RA,hr2,Rs,RJ]
 ·have hge:=VK w (l.length+m.length) l.length e;have hcm:=grownCap_le_maxLen w (l.length+m.length) l.length e (by unfold maxLen;omega);refine⟨by rw[E.all_length],.inr ⟨_,grownCap w (l.length+m.length) l.length e,_,?_,KB _,TN w.drew _,by rw[sp];exact hge,hcm,?_,?_⟩⟩
  ·rw[sp];rfl
  ·rw[<-hrow];simp only[Array.size_append,U6,size_zeroCells,hty.zs,sp,E.all_length,<-Sp];congr 1;omega
  ·rw[E.all_append,<-hrow];simp only[Array.toList_append];have:(E.all l++E.all m).length=(l++m).length*E.s:=by rw[<-E.all_append,E.all_length]
   rw[<-this];exact Vs
def Ev.Ji{x:Operand}{T m e s b:Nat}(hT:ArrTy P T m e s)(hm:0<m)(hx:aJ L x=some (.pointer (some ⟨b,0,none⟩))):Ev P n L w ⟨d,.slice T x none none none,ty,pos,af,g⟩ (.slice (some ⟨b,0,none⟩) m m):=.of λ ρ hρ=>by
 have hz:=hT.size;cases hin:P.info? e with
 |none=>simp[hin]at hz
 |some inf=>
  simp[hin]at hz;have hsb:=λ w=>gd (P:=P) (isSl:=false) (len:=m) (cap:=m) (l:=0) (h:=m) (low:=none) (high:=none) Y Y (KB _) (KD _) w;have h0:¬ m=0:=by omega
  simp only[execOp,hρ hx,Instr.sliceAt,RA,Rt hT.und,Rs,Instr.sureAddr,RJ,UB,hsb];simp[sizeOf,typeInfo,hin,hz,h0,Sz,go_sem]
def Sat.Q8(h:Sat w0 cs w)(i:Nat){b T:Nat}{l:List α}(hi:cs[i]? =some (aq b T (E.all l))){m:Nat}(hm:m=l.length):RdL w (.slice (some ⟨b,0,none⟩) m m) E l:=by
 subst hm;refine⟨some ⟨b,0,none⟩,l.length,Y,KD _,λ j u hu=>⟨b,0,Y,?_⟩⟩;rw[RX];exact h.cell hi hu
structure BuildAr(P:Program)(T m e:Nat)(zs:List Value):Prop where
 zero:(P.info? T).map (·.zero)=some (some (.agg zs.toArray))
 und:P.underlying T=some (.array m e)
 size:(P.info? e).map (·.size)=some 1
def setArr:List (Nat×Value)->List Value->Option (List Value)
 |[],zs=>some zs
 |(i,v)::r,zs=>cond (Nat.ble (i+1) zs.length) (setArr r (zs.set i v)) none
def rJ:∀ (parts:List (Nat×Value)) (zs out:List Value),oX parts->setArr parts zs=some out->Instr.fill (λ i=>some (i*1,1)) zs.toArray parts=some out.toArray
 |[],zs,out,_,h=>by simp only[setArr,Th]at h;subst h;rfl
 |(i,v)::r,zs,out,h1,h=>by
  have hvc:v.cells= #[v]:=by have:=h1.1;cases v<;>first|rfl|cases this
  unfold setArr at h;cases hb:Nat.ble (i+1) zs.length with
  |false=>rw[hb]at h;cases h
  |true=>
   rw[hb]at h;have hle:=Sh hb;have ih:=rJ r (zs.set i v) out h1.2 h;simp only[Instr.fill,hvc,SA];simp only[U6,LW,Rp,RX,ne_eq,not_true,V1,Bool.false_or,Vw];rw[M2 (by simp;omega)];simpa using ih
def Ev.IX{T m e:Nat}{zs out:List Value}{parts:List (Nat×Operand)}{vs:List (Nat×Value)}(hb:BuildAr P T m e zs)(hp:cW L parts=some vs)(h1:oX vs)(ho:setArr vs zs=some out):
  Ev P n L w ⟨d,.build T parts.toArray,ty,pos,af,g⟩ (.agg out.toArray):=.of λ ρ hρ=>by
 have he:∀ (parts:List (Nat×Operand)) (vs:List (Nat×Value)),cW L parts=some vs->parts.map (λ(i,x)=>(i,ρ x))=vs:=by
  intro parts;induction parts with
  |nil=>intro vs h;simp[cW]at h;simp[h]
  |cons p r ih=>
   intro vs h;obtain⟨i,x⟩:=p;simp only[cW,TC,SD]at h;obtain⟨v,hv,us,hus,rfl⟩:=h;simp[hρ hv,ih us hus]
 have hz:=hb.zero;have hs:=hb.size;have hfill:=rJ vs zs out h1 ho;cases hi:P.info? T with
 |none=>simp[hi]at hz
 |some inf=>
  cases hie:P.info? e with
  |none=>simp[hie]at hs
  |some infe=>
   simp[hi]at hz;simp[hie]at hs;have hrun:(Instr.build T vs.toArray).run P w= .ok (.agg out.toArray) w:=by
    simp only[Instr.build,zeroValue,typeInfo,RA];simp only[SA]at hfill;simp[hi,hz,Rt hb.und,sizeOf,typeInfo,hie,hs,Value.cells,hfill]
   simp only[execOp];rw[show(parts.toArray.map λ(i,x)=>(i,ρ x))=vs.toArray by rw[TM,he parts vs hp]];simp only[RA,hrun,Rs,RJ]
def kK{T b:Nat}{vs:List Value}(hT:dS P T vs.length=true)(h:∀ j u,vs[j]? =some u->w.cell? ⟨b,j,none⟩=some u):(loadVar T ⟨b,0,none⟩).run P w= .ok (.agg vs.toArray) w:=by
 have hl:=TO (P:=P) w ⟨b,0,none⟩ vs (λ q u hu=>by rw[Sz,RX];exact h q u hu);have hag:(isAgg T).run P w= .ok true w:=by
  unfold dS at hT;cases hun:P.underlying T with
  |none=>simp[hun]at hT
  |some D=>cases D<;>simp[hun]at hT<;>simp[isAgg,Rt hun,go_sem]
 have hsz:(sizeOf T).run P w= .ok vs.length w:=by
  unfold dS at hT;cases hun:P.underlying T with
  |none=>simp[hun]at hT
  |some D=>
   cases hin:P.info? T with
   |none=>cases D<;>simp[hun,hin]at hT
   |some inf=>cases D<;>simp[hun,hin]at hT<;>simp[sizeOf,typeInfo,hin,hT,go_sem]
 simp only[loadVar,RA,hag,Rs,hsz,TJ,hl,RJ]
def Bc{fn:Func}{Φ:Value->World->Prop}{t T b:Nat}{vs:List Value}(hr:fn.results= #[.cell t T])(hv:look L t=some (.pointer (some ⟨b,0,none⟩)))(hT:dS P T vs.length=true)(hc:∀ j u,vs[j]? =some u->w.cell? ⟨b,j,none⟩=some u)
  (h:Φ (.agg vs.toArray) w):aM P n fn Φ L w:=λ a ha=>by
 have h1:=ha.slot t _ hv;refine⟨_,?_,h⟩;simp[results,hr,SU,h1,asAddr,kK hT hc]
def Ev.MP{x:Operand}{xt:TypeId}{a:Nat}(hx:aJ L x=some (.int .u32 (a:Int)))(ha:a<4294967296):Ev P n L w ⟨d,.unOp .xor xt x,ty,pos,af,g⟩ (.int .u32 ((4294967295^^^a:Nat):Int)):=.of λ ρ hρ=>by
 have h:=Cx (P:=P) (k:=.u32) Y (a:=4294967295) (b:=a) (by simp only[IntKind.bits];omega) (by simp only[IntKind.bits];omega) w;have hm:IntKind.u32.max=((4294967295:Nat):Int):=by decide
 simp only[execOp,hρ hx,Op.unary,IntKind.signed,SE,SX,hm,RA,h,Rs,RJ]
end
section
variable {P:Program} {n:Nat} {L:aA} {w:World} {d:Option Nat} {ty:TypeId} {pos:String} {af:Array Edge} {g:Option (Nat×Bool)}
def QD{s:ByteArray}{j:Nat}{b:UInt8}(h:s.data.toList[j]? =some b):s[j]? =some b:=by
 obtain⟨hj,rfl⟩:=IN.1 h;have hj':j<s.size:=by simpa using hj
 rw[getElem?_pos s j hj'];rfl
def Ev.fg{x i:Operand}{t:TypeId}{s:ByteArray}{j:Nat}{b:UInt8}(ht:P.underlying t=some .string)(hx:aJ L x=some (.string s))(hi:aJ L i=some (.int .i64 (j:Int)))(hb:s.data.toList[j]? =some b):
  Ev P n L w ⟨d,.index t x i,ty,pos,af,g⟩ (.int .u8 ((b.toNat:Nat):Int)):=.of λ ρ hρ=>by
 have hb':=QD hb;have h0:(0:Int)<=(j:Int):=by omega
 simp only[execOp,hρ hx,hρ hi];simp[Instr.index,asIntOf,Rt ht,hb',h0,go_sem]
end
section
variable {P:Program} {n:Nat} {ops:List Oper} {K:aA->World->Prop} {L:aA} {w:World} {S:World->Prop} {SS:List (World->Prop)} {p q:Plan}
end
section
variable {P:Program} {n:Nat} {L:aA} {w w0:World} {cs:List Chunk} {K:Value->World->Prop} {d:Option Nat} {ty:TypeId} {pos:String} {af:Array Edge} {g:Option (Nat×Bool)} {α:Type} {E:Enc α}
def OpE.iA{t e b m:Nat}{z:Value}{parts:List (Nat×Operand)}{vs:List (Nat×Value)}(E:Enc α)(l:List α)(hty:SlTy P t e 1 z b)(hp:cW L parts=some vs)(h1:oX vs)(hz1:z.oneCell'=true)(ho:Kw.setArr vs (List.replicate m z)=some (E.all l))(hl:l.length=m)(hE:E.s=1)(hm0:m≠0)(hm:m<=16777216)(hs:Sat w0 cs w)
  (hk:∀ u w',Sat w0 (cs++[cL u e E l]) w'->Chg [] w w'->K u w'):OpE P n L w ⟨d,.buildSlice t m parts.toArray,ty,pos,af,g⟩ K:=by
 obtain⟨inf,i1,i2,i3,i4⟩:=hty.info;have he:∀ ρ:Operand->Value,(∀ {x u},aJ L x=some u->ρ x=u)->∀ (parts:List (Nat×Operand)) (vs:List (Nat×Value)),cW L parts=some vs->parts.map (λ(i,x)=>(i,ρ x))=vs:=by
  intro ρ hρ parts;induction parts with
  |nil=>intro vs h;simp[cW]at h;simp[h]
  |cons p r ih=>
   intro vs h;obtain⟨i,x⟩:=p;simp only[cW,TC,SD]at h;obtain⟨v,hv,us,hus,rfl⟩:=h;simp[hρ hv,ih us hus]
 have hvc:z.cells= #[z]:=by cases z<;>first|rfl|cases hz1
 have hfill:=rJ vs (List.replicate m z) (E.all l) h1 ho;have hall:(E.all l).length=m:=by rw[E.all_length,hE,hl,SA]
 have hzero:(Array.range m).map (λ q=>z.cells[q%z.cells.size]!)=(List.replicate m z).toArray:=by
  rw[hvc];apply Array.ext';apply UH
  ·simp
  ·intro i _ _;simp[Nat.mod_one]
 have hrun:(Instr.buildSlice t m vs.toArray).run P w= .ok (.slice (some ⟨w.heap.size,0,none⟩) m m) (w.alloc (.cells (E.all l).toArray e)):=by
  simp only[SA]at hfill;have h24:¬ 2^24<m:=by omega
  have r1:(zeroValue e).run P w= .ok z w:=by simp[zeroValue,typeInfo,i1,i2,go_sem]
  have r2:(sizeOf e).run P w= .ok 1 w:=by simp[sizeOf,typeInfo,i1,i3,go_sem]
  have r3:(newRow e (E.all l).toArray).run P w= .ok ⟨w.heap.size,0,none⟩ (w.alloc (.cells (E.all l).toArray e)):=by simp[newRow,go_sem]
  simp only[Instr.buildSlice,Rt hty.und,r2,RA,Rs,SA,Vw,h24,hm0,SX,r1,RJ,hzero,hfill,r3]
 refine .val (λ ρ hρ=>?_) (hk (.slice (some ⟨w.heap.size,0,none⟩) m m) (w.alloc (.cells (E.all l).toArray e)) ?_ (.alloc _ _))
 ·simp only[execOp];rw[show(parts.toArray.map λ(i,x)=>(i,ρ x))=vs.toArray by rw[TM,he ρ hρ parts vs hp]];simp only[RA,hrun,Rs,RJ]
 ·have h:=hs.we e E.s m m (E.all l) (by unfold maxLen;omega) (KD _) (by rw[hall,hE,SA]);rw[hE,SA,Ru (by omega)]at h;unfold cL;rw[hl,hE];exact h
end
def strOf(l:List Nat):ByteArray:=⟨(l.map λ n=>UInt8.ofNat n).toArray⟩
def ca(l:List Nat):(strOf l).size=l.length:=by simp[strOf,ByteArray.size]
def foldl_push(l:List Nat):∀ r:ByteArray,(l.map λ n=>((n:Nat):Int)).foldl (λ r n=>r.push (UInt8.ofNat n.toNat)) r=⟨r.data++(l.map λ n=>UInt8.ofNat n).toArray⟩:=by
 induction l with
 |nil=>intro r;simp
 |cons b l ih=>intro r;simp only[Sg,TQ];rw[ih];simp[ByteArray.push]
def EB{a b:List Nat}(ha:∀ x∈a,x<256)(hb:∀ x∈b,x<256):strOf a=strOf b↔a=b:=by
 refine⟨λ h=>?_,λ h=>by rw[h]⟩;have h1:a.map (λ n=>UInt8.ofNat n)=b.map (λ n=>UInt8.ofNat n):=by
  have:=If (λ s:ByteArray=>s.data.toList) h;simpa[strOf]using this
 have h2:=If (List.map UInt8.toNat) h1;rw[U4,U4]at h2;have e:∀ l:List Nat,(∀ x∈l,x<256)->l.map (UInt8.toNat∘λ n=>UInt8.ofNat n)=l:=λ l hl=>by
  conv=>rhs;rw[<-map_id l]
  refine TD λ x hx=>?_;have:=hl x hx;simp[UInt8.toNat_ofNat,RR this]
 rwa[e a ha,e b hb]at h2
def EC(l:List Nat):(a8 .u8).all l=(l.map λ n=>((n:Nat):Int)).map (Value.int .u8):=by
 induction l with
 |nil=>rfl
 |cons y r ih=>rw[Enc.all_cons,Sg,Sg];exact If (Value.int .u8 ((y:Nat):Int):: ·) ih
def wL{a b:ByteArray}:(a.toList==b.toList)=decide (a=b):=by
 have h:a.toList=b.toList↔a=b:=⟨λ h=>by
  rw[TW,TW]at h;obtain⟨⟨x⟩⟩:=a;obtain⟨⟨y⟩⟩:=b;simp at h;rw[h],λ h=>by rw[h]⟩
 by_cases hab:a=b
 ·subst hab;simp
 ·rw[AT hab];simp;exact λ h'=>hab (h.1 h')
section
variable {P:Program} {n:Nat} {L:aA} {w w0:World} {cs:List Chunk} {K:Value->World->Prop} {d:Option Nat} {ty:TypeId} {pos:String} {af:Array Edge} {g:Option (Nat×Bool)}
def Ev.db{x:Operand}{s t e:TypeId}{v:Value}{l:List Nat}(hs:P.underlying s=some (.slice e))(ht:P.underlying t=some .string)(he:P.underlying e=some (.int .u8))(hx:aJ L x=some v)(h:RdL w v (a8 .u8) l):
  Ev P n L w ⟨d,.convert s t x,ty,pos,af,g⟩ (.string (strOf l)):=.of λ ρ hρ=>by
 obtain⟨a,cap,rfl,hn,hc⟩:=h;have hrun:(convert s t (.slice a l.length cap)).run P w= .ok (.string (strOf l)) w:=by
  rw[run_convert_bytes_string w s t e a l.length cap hs he ht];have hall:=EC l;cases a with
  |none=>
   have hl:l=[]:=by
    cases l with
    |nil=>rfl
    |cons y r=>obtain⟨b,o,ha,_⟩:=hc 0 (.int .u8 ((y:Nat):Int)) (by rw[Enc.all_cons];rfl);cases ha
   subst hl;simp[Conv.bytesToString,RJ];rfl
  |some a=>
   have hlen:((a8 .u8).all l).length=l.length:=by rw[(a8 .u8).all_length];exact SA _
   have hld:=TO (P:=P) w a ((a8 .u8).all l) λ q u hu=>by
    obtain⟨b,o,hb,hw⟩:=hc q u hu;cases hb;rw[Sz];exact hw
   rw[hlen,hall]at hld;rw[run_bytesToString w a l.length cap _ hld,foldl_push];simp[strOf]
 simp only[execOp,hρ hx];simp[hrun]
def Ev.fh{x y:Operand}{t T:TypeId}{a b:ByteArray}(hx:aJ L x=some (.string a))(hy:aJ L y=some (.string b)):Ev P n L w ⟨d,.binOp .eql t x y T,ty,pos,af,g⟩ (.bool (decide (a=b))):=
 .bin hx hy (by rfl) λ w=>by rw[binOp_string_eql,wL];rfl
def Ev.dG{x y:Operand}{t T:TypeId}{a b:ByteArray}(hx:aJ L x=some (.string a))(hy:aJ L y=some (.string b)):Ev P n L w ⟨d,.binOp .neq t x y T,ty,pos,af,g⟩ (.bool (decide (a≠b))):=
 .bin hx hy (by rfl) λ w=>by rw[binOp_string_neq,wL,<-decide_not];rfl
end
end Go.Kw
namespace Go.Kw
open Go.RowKit Go.MapKept
abbrev cV:=List (ByteArray×Nat)
def bp(m:cV):List (Value×Value):=m.map λ p=>(.string p.1,.int .i64 (p.2:Int))
def cE(es:Array MapEntry):List (Value×Value):=es.toList.map λ e=>(e.key,e.val)
def qn(b:Nat)(m:cV):Chunk where
 foot:=[b]
 holds w:=∃ es clock,w.heap[b]? =some (.map es clock)/\Stamped es clock/\cE es=bp m
 stable w w' h hc:=by obtain⟨es,clock,h1,r⟩:=hc;exact⟨es,clock,by rw[h b (by simp)];exact h1,r⟩
def Bd(b r:Nat)(m done:cV):Chunk where
 foot:=[b,r]
 holds w:=∃ es clock seen rest,w.heap[b]? =some (.map es clock)/\Stamped es clock/\cE es=bp m/\w.heap[r]? =some (.mapIter (some b) clock seen clock)/\
  (leftOf es seen).toList.map (λ e=>(e.key,e.val))=bp rest/\(done++rest).Perm m/\
  ∀ p,done.getLast? =some p->∃ e∈es.toList,seen.back? =some e.born/\e.key= .string p.1/\e.val= .int .i64 (p.2:Int)
 stable w w' h hc:=by obtain⟨es,clock,seen,rest,h1,h2,h3,h4,h5⟩:=hc;exact⟨es,clock,seen,rest,by rw[h b (by simp)];exact h1,h2,h3,by rw[h r (by simp)];exact h4,h5⟩
def oR(r:Nat)(s:ByteArray)(i:Nat):Chunk where
 foot:=[r]
 holds w:=w.heap[r]? =some (.stringIter s i)
 stable w w' h hc:=by rw[h r (by simp)];exact hc
def bB(m:cV):List ByteArray:=m.map (·.1)
def iq(m:cV)(s:ByteArray):Nat:=((m.find? λ p=>decide (p.1=s)).map (·.2)).getD 0
instance(s:ByteArray)(m:cV):Decidable (s∈bB m):=decidable_of_iff (∃ p∈m,p.1=s) (by simp[bB])
def tO(m:cV)(s:ByteArray):cV:=if s∈bB m then m else m++[(s,0)]
def wM(m:cV)(s:ByteArray)(c:Nat):cV:=m.map λ p=>if p.1=s then(p.1,c)else p
def Cn{es:Array MapEntry}{m:cV}(h:cE es=bp m){e:MapEntry}(he:e∈es.toList):∃ s c,e.key= .string s/\e.val= .int .i64 ((c:Nat):Int)/\(s,c)∈m:=by
 have:(e.key,e.val)∈bp m:=by rw[<-h];exact Sk.2 ⟨e,he,Y⟩
 obtain⟨⟨s,c⟩,hp,heq⟩:=Sk.1 this;simp only[RW]at heq;exact⟨s,c,heq.1.symm,heq.2.symm,hp⟩
def yz{es:Array MapEntry}{m:cV}(h:cE es=bp m):∀ x∈es.toList,IsKey .string x.key:=λ x hx=>by
 obtain⟨s,c,h1,_⟩:=Cn h hx;rw[h1];exact trivial
def Cp{es:Array MapEntry}{m:cV}(h:cE es=bp m){j:Nat}{e:MapEntry}(he:es.toList[j]? =some e):∃ p,m[j]? =some p/\e.key= .string p.1/\e.val= .int .i64 (p.2:Int):=by
 have h1:(cE es)[j]? =(bp m)[j]? :=by rw[h]
 unfold cE bp at h1;rw[Rz,Rz,he]at h1;cases hp:m[j]? with
 |none=>rw[hp]at h1;cases h1
 |some p=>rw[hp]at h1;simp at h1;exact⟨p,Y,h1.1,h1.2⟩
def oS{es:Array MapEntry}{clock:Nat}{m:cV}(hs:Stamped es clock)(h:cE es=bp m):(bB m).Nodup:=by
 have h1:=hs.2.2;have e:es.toList.map (·.key)=(bB m).map Value.string:=by
  have:=If (List.map Prod.fst) h;simpa[cE,bp,bB,U4,U7]using this
 rw[e,List.Nodup,Vf]at h1;exact h1.imp λ h e=>h (by rw[e])
def Kj{m:cV}(hn:(bB m).Nodup){j:Nat}{p:ByteArray×Nat}(hj:m[j]? =some p):iq m p.1=p.2:=by
 induction m generalizing j with
 |nil=>simp at hj
 |cons q r ih=>
  obtain⟨h1,h2⟩:=Vz.1 (show(q.1::bB r).Nodup from hn);cases j with
  |zero=>simp at hj;subst hj;simp[iq]
  |succ j=>
   have hj':r[j]? =some p:=by simpa using hj
   have hne:q.1≠p.1:=λ e=>h1 (e▸Sk.2 ⟨p,Rv hj',Y⟩);have:=ih h2 hj';unfold iq at this⊢;rw[Tl (by simpa using hne)];exact this
def ED{m:cV}{s:ByteArray}(h:s∉bB m):iq m s=0:=by
 unfold iq;rw[find?_eq_none.2 λ p hp=>by simp;exact λ e=>h (Sk.2 ⟨p,hp,e⟩)];rfl
def GH{m:cV}{s t:ByteArray}{c:Nat}(h:s∈bB m):iq (wM m s c) t=if t=s then c else iq m t:=by
 unfold iq wM;induction m with
 |nil=>cases h
 |cons p r ih=>
  by_cases hp:p.1=s
  ·by_cases ht:t=s
   ·subst ht;rw[Sg,No hp,Uc (by simpa using hp),No Y];rfl
   ·rw[Sg,No hp,Tl (by simp;exact λ e=>ht (e.symm.trans hp)),M2 ht,Tl (by simp;exact λ e=>ht (e.symm.trans hp))];clear ih;have:∀ l:cV,(List.find? (λ p=>decide (p.1=t)) (l.map λ p=>if p.1=s then(p.1,c)else p))=List.find? (λ p=>decide (p.1=t)) l:=λ l=>by
     induction l with
     |nil=>rfl
     |cons q l ih=>
      rw[Sg];by_cases hq:q.1=s
      ·rw[No hq,Tl (by simp;exact λ e=>ht (e.symm.trans hq)),Tl (by simp;exact λ e=>ht (e.symm.trans hq)),ih]
      ·rw[M2 hq];by_cases hqt:q.1=t
       ·rw[Uc (by simpa using hqt),Uc (by simpa using hqt)]
       ·rw[Tl (by simpa using hqt),Tl (by simpa using hqt),ih]
    rw[this]
  ·have hr:s∈bB r:=by
    rcases Rx.1 (show s∈p.1::bB r from h)with e|e
    ·exact absurd e.symm hp
    ·exact e
   rw[Sg,M2 hp];by_cases hpt:p.1=t
   ·rw[Uc (by simpa using hpt),Uc (by simpa using hpt),M2 (λ e=>hp (hpt.trans e))]
   ·rw[Tl (by simpa using hpt),Tl (by simpa using hpt)];exact ih hr
def EE(m:cV)(s:ByteArray)(c:Nat):bB (wM m s c)=bB m:=by
 unfold bB wM;rw[U4];exact TD λ p _=>by simp only[Function.comp];split<;>rfl
def uP(m:cV)(s:ByteArray):s∈bB (tO m s)/\∀ t,t∈bB (tO m s)↔t=s\/t∈bB m:=by
 unfold tO;split
 ·rename_i h
  exact⟨h,λ t=>⟨.inr,λ ht=>ht.elim (λ e=>e▸h) id⟩⟩
 ·refine⟨by simp[bB],λ t=>?_⟩;simp only[bB,Si,Sg,U3,RE,RL];exact Or.comm
def GI(m:cV)(s t:ByteArray):iq (tO m s) t=iq m t:=by
 unfold tO;split
 ·rfl
 ·rename_i h
  unfold iq;rw[find?_append];cases hf:m.find? λ p=>decide (p.1=t)with
  |some p=>rfl
  |none=>
   simp only[Option.none_or,UB,Option.getD_none];by_cases hst:s=t
   ·rw[Uc (by simpa using hst)];rfl
   ·rw[Tl (by simpa using hst)];rfl
def yA(m:cV)(s:ByteArray):(tO m s).length<=m.length+1:=by
 unfold tO;split<;>simp
section
variable {P:Program} {n:Nat} {L:aA} {w w0:World} {cs:List Chunk} {K:Value->World->Prop} {d:Option Nat} {ty:TypeId} {pos:String} {af:Array Edge} {g:Option (Nat×Bool)}
def OpE.makeMap{t:TypeId}(hs:Sat w0 cs w)(hk:∀ b w',Sat w0 (cs++[qn b []]) w'->K (.map (some b)) w'):OpE P n L w ⟨d,.makeMap t none,ty,pos,af,g⟩ K:=by
 refine .val (v:=.map (some w.heap.size)) (w':=w.alloc (.map #[] 0)) (λ ρ hρ=>?_) (hk _ _ (hs.add (.alloc _ _) ⟨#[],0,TN w _,stamped_empty 0,Y⟩ (by simp[qn])));simp[execOp,Instr.makeMap,go_sem]
def Ev.Ox{x:Operand}{t k e:TypeId}{i b:Nat}{m:cV}(hu:P.underlying t=some (.map k e))(hs:Sat w0 cs w)(hi:cs[i]? =some (qn b m))(hx:aJ L x=some (.map (some b))):
  Ev P n L w ⟨d,.call ⟨.builtin .len,#[x],#[t]⟩,ty,pos,af,g⟩ (.int .i64 ((m.length:Nat):Int)):=.of λ ρ hρ=>by
 obtain⟨es,clock,hb,hst,hc⟩:=hs.get hi;have hl:es.size=m.length:=by have:=If List.length hc;simpa[cE,bp]using this
 simp[execOp,hρ hx,resolve,invoke,Builtin.len_,Rt hu,Tg hb,go_sem,goInt,hl]
def rK{t k e:TypeId}{b:Nat}{es:Array MapEntry}{clock:Nat}{m:cV}(hu:P.underlying t=some (.map k e))(hks:P.underlying k=some .string)(hz:(zeroValue e).run P w= .ok (.int .i64 0) w)
  (hb:w.heap[b]? =some (.map es clock)) (hst:Stamped es clock) (hc:cE es=bp m) (s:ByteArray):
  (Instr.lookup t (.map (some b)) (.string s) false).run P w= .ok (.int .i64 ((iq m s:Nat):Int)) w:=by
 have hk:IsKey .string (.string s):=trivial;have hn:=oS hst hc;rcases findNow_spec hk es.toList 0 (yz hc)with⟨h1,h2⟩|⟨j,e0,h1,h2,h3⟩
 ·have h0:iq m s=0:=ED λ hm=>by
   obtain⟨p,hp,rfl⟩:=Sk.1 hm;have:(Value.string p.1,Value.int .i64 (p.2:Int))∈cE es:=by rw[hc];exact Sk.2 ⟨p,hp,Y⟩
   obtain⟨x,hx,hxe⟩:=Sk.1 this;exact h2 x hx (by simpa using If Prod.fst hxe)
  rw[h0];simp[Instr.lookup,Rt hu,Tg hb,TS hks hk,TV hks h1,hz,Result.andThen]
 ·obtain⟨p,hp,hpk,hpv⟩:=Cp hc h2;have:p.1=s:=by rw[hpk]at h3;cases h3;rfl
  subst this;rw[Kj hn hp];simp[Instr.lookup,Rt hu,Tg hb,TS hks hk,TV hks h1,hpv,Result.andThen]
def Ev.lookup{x y:Operand}{t k e:TypeId}{i b:Nat}{m:cV}{s:ByteArray}(hu:P.underlying t=some (.map k e))(hks:P.underlying k=some .string)(hz:∀ w,(zeroValue e).run P w= .ok (.int .i64 0) w)
  (hs:Sat w0 cs w) (hi:cs[i]? =some (qn b m)) (hx:aJ L x=some (.map (some b))) (hy:aJ L y=some (.string s)):
  Ev P n L w ⟨d,.lookup t x y false,ty,pos,af,g⟩ (.int .i64 ((iq m s:Nat):Int)):=.of λ ρ hρ=>by
 obtain⟨es,clock,hb,hst,hc⟩:=hs.get hi;simp only[execOp,hρ hx,hρ hy,RA,rK hu hks (hz w) hb hst hc s,Rs,RJ]
def Chg.any{S:List Nat}{w w':World}(h:Chg [] w w'):Chg S w w':=⟨h.os,h.tape,h.output,h.size,λ q hq _=>h.block q hq (by simp)⟩
def EF{l:List MapEntry}{e:MapEntry}(he:e∈l)(hnd:(l.map (·.born)).Nodup):(e::l.filter λ x=> !(x.born==e.born)).Perm l:=by
 induction l with
 |nil=>cases he
 |cons y l ih=>
  obtain⟨h1,h2⟩:=Vz.1 (show(y.born::l.map (·.born)).Nodup from hnd);rcases Rx.1 he with rfl|he
  ·rw[TA (by simp),Tt.2 λ x hx=>by
    have:x.born≠e.born:=λ q=>h1 (q▸Sk.2 ⟨x,hx,Y⟩);simpa using this]
  ·have hne:y.born≠e.born:=λ q=>h1 (q▸Sk.2 ⟨e,he,Y⟩);rw[T3 (by simpa using hne)];exact(List.Perm.swap ..).trans ((ih he h2).cons y)
def lA{b:Nat}{o:Obj}(o':Obj)(hb:w.heap[b]? =some o):Chg [b] w {w with heap:=w.heap.setIfInBounds b o'}:=
 ⟨Y,Y,Y,by simp,λ k _ hn=>(TX hb).2 k (by simpa using hn)⟩
def OpE.rangeMap{x:Operand}{t k e:TypeId}{i b:Nat}{m:cV}(hu:P.underlying t=some (.map k e))(hs:Sat w0 cs w)(hi:cs[i]? =some (qn b m))(hx:aJ L x=some (.map (some b)))
  (hk:∀ r w',Sat w0 (cs.set i (Bd b r m [])) w'->K (.pointer (some ⟨r,0,none⟩)) w'):OpE P n L w ⟨d,.range t x,ty,pos,af,g⟩ K:=by
 obtain⟨es,clock,hb,hst,hc⟩:=hs.get hi;have hlt:b<w.heap.size:=(TH.1 hb).1;refine .val (v:=.pointer (some ⟨w.heap.size,0,none⟩)) (w':=w.alloc (.mapIter (some b) clock #[] clock)) (λ ρ hρ=>?_)
  (hk _ _ (hs.set i hi (Chg.alloc w _).any
   ⟨es,clock,#[],m,((MapKept.heap_alloc w _).2 b hlt).trans hb,hst,hc,(MapKept.heap_alloc w _).1,?_,by simp,by simp⟩ ?_))
 ·simp only[execOp,hρ hx,RA,run_range_map w t k e b es clock hu hb,Rs,RJ]
 ·rw[show leftOf es #[]=es from by unfold leftOf;exact Array.filter_eq_self.2 (by simp)];exact hc
 ·intro q hq;rcases Rx.1 (show q∈[b,w.heap.size]from hq)with rfl|hq
  ·exact .inl (RL.2 Y)
  ·refine .inr ?_;have:q=w.heap.size:=by simpa using hq
   subst this;exact⟨KD _,by simp⟩
def OpE.LY{x:Operand}{i b r:Nat}{m done:cV}(hs:Sat w0 cs w)(hi:cs[i]? =some (Bd b r m done))(hx:aJ L x=some (.pointer (some ⟨r,0,none⟩)))
  (hd:done.Perm m->K (.tuple #[.bool false]) w)
  (hm:∀ s c w',(s,c)∈m->Sat w0 (cs.set i (Bd b r m (done++[(s,c)]))) w'->K (.tuple #[.bool true,.string s,.int .i64 ((c:Nat):Int)]) w'):OpE P n L w ⟨d,.next x false,ty,pos,af,g⟩ K:=by
 obtain⟨es,clock,seen,rest,hb,hst,hc,hr,hl,hp,_⟩:=hs.get hi;have hne:r≠b:=λ e=>by rw[e,hb]at hr;cases hr
 rcases run_next_at (P:=P) w ty r b clock clock seen es clock hr hb hst.1 (KD _)with⟨h0,hrun⟩|⟨e,he,w1,hal,hrun⟩
 ·have hrest:rest=[]:=by
   have:=If List.length hl;simp[bp,h0]at this;exact RM this.symm
  subst hrest;refine .val (λ ρ hρ=>?_) (hd (by simpa using hp));simp only[execOp,hρ hx,RA,hrun,Rs,RJ]
 ·obtain⟨hem,hes⟩:=mem_left he;obtain⟨s,c,hk1,hv1,hmem⟩:=Cn hc hem;have hw1:w1=w\/w1=w.drew:=hal;have hr1:w1.heap[r]? =some (.mapIter (some b) clock seen clock):=by rcases hal with rfl|rfl<;>exact hr
  have hb1:w1.heap[b]? =some (.map es clock):=by rcases hal with rfl|rfl<;>exact hb
  have hset:=TX (o':=.mapIter (some b) clock (seen.push e.born) clock) hr1;have hb':(ChangeMaps.setBlock w1 r (.mapIter (some b) clock (seen.push e.born) clock)).heap[b]? =some (.map es clock):=(hset.2 b (λ e1=>hne e1.symm)).trans hb1;have hleft:∃ rest',(leftOf es (seen.push e.born)).toList.map (λ e=>(e.key,e.val))=bp rest'/\((s,c)::rest').Perm rest:=by
   have hperm:(e::(leftOf es (seen.push e.born)).toList).Perm (leftOf es seen).toList:=by
    have hnd:((leftOf es seen).toList.map (·.born)).Nodup:=by
     have:(leftOf es seen).toList.Sublist es.toList:=by unfold leftOf;rw[Vh];exact filter_sublist
     exact hst.2.1.sublist (this.map _)
    have e1:(leftOf es (seen.push e.born)).toList=(leftOf es seen).toList.filter λ x=> !(x.born==e.born):=by
     unfold leftOf;rw[Vh,Vh,filter_filter];congr 1;funext x;rw[contains_push];cases seen.contains x.born<;>cases(x.born==e.born)<;>rfl
    rw[e1];exact EF he hnd
   have hm:=hperm.map (λ e=>(e.key,e.val));rw[hl,Sg,hk1,hv1]at hm;have hall:∀ q∈(leftOf es (seen.push e.born)).toList.map (λ e=>(e.key,e.val)),∃ p:ByteArray×Nat,q=(Value.string p.1,Value.int .i64 (p.2:Int)):=λ q hq=>by
    have:=hm.subset (Sl _ hq);obtain⟨p,_,rfl⟩:=Sk.1 this;exact⟨p,Y⟩
   have hex:∀ l:List (Value×Value),(∀ q∈l,∃ p:ByteArray×Nat,q=(Value.string p.1,Value.int .i64 (p.2:Int)))->∃ rest':cV,l=bp rest':=λ l=>by
    induction l with
    |nil=>exact λ _=>⟨[],Y⟩
    |cons a l ih=>
     intro h;obtain⟨p,hp⟩:=h a (SI ..);obtain⟨r',hr'⟩:=ih λ q hq=>h q (Sl _ hq);exact⟨p::r',by rw[hp,hr'];rfl⟩
   obtain⟨rest',hr'⟩:=hex _ hall;refine⟨rest',hr',?_⟩;rw[hr']at hm;have hm2:(bp ((s,c)::rest')).Perm (bp rest):=hm;have hinj:∀ a b:cV,(bp a).Perm (bp b)->a.Perm b:=λ a b h=>by
    have:=h.map (λ q:Value×Value=>match q with|(.string s,.int _ z)=>(s,z.toNat)|_=>(ByteArray.empty,0));simpa[bp,U4,U7]using this
   exact hinj _ _ hm2
  obtain⟨rest',hl',hp'⟩:=hleft;refine .val (v:=.tuple #[.bool true,.string s,.int .i64 ((c:Nat):Int)]) (w':=ChangeMaps.setBlock w1 r (.mapIter (some b) clock (seen.push e.born) clock)) (λ ρ hρ=>?_)
   (hm s c _ hmem (hs.set i hi ?_ ⟨es,clock,seen.push e.born,rest',hb',hst,hc,hset.1,hl',?_,λ p hp=>⟨e,hem,by simp,?_⟩⟩ (λ _ h=>.inl h)))
  ·rw[<-hk1,<-hv1];simp only[execOp,hρ hx,RA,hrun,Rs,RJ]
  ·rcases hal with rfl|rfl<;>exact⟨Y,Y,Y,by simp[ChangeMaps.setBlock],λ q _ hq=>hset.2 q (λ e1=>hq (by rw[e1];exact Sl _ (RL.2 Y)))⟩
  ·refine List.Perm.trans ?_ hp;rw[KV];exact hp'.append_left done
  ·have:p=(s,c):=by simpa using hp.symm
   subst this;exact⟨hk1,hv1⟩
def Ev.entry{x:Operand}{i b r:Nat}{m done:cV}{s:ByteArray}{c:Nat}(hs:Sat w0 cs w)(hi:cs[i]? =some (Bd b r m (done++[(s,c)])))(hx:aJ L x=some (.pointer (some ⟨r,0,none⟩))):
  Ev P n L w ⟨d,.entry x,ty,pos,af,g⟩ (.tuple #[.string s,.int .i64 ((c:Nat):Int)]):=.of λ ρ hρ=>by
 obtain⟨es,clock,seen,rest,hb,hst,hc,hr,hl,hp,hlast⟩:=hs.get hi;obtain⟨e,he,hbk,hk,hv⟩:=hlast (s,c) (by simp);have hf:es.find? (·.born==e.born)=some e:=by rw[<-Array.find?_toList];exact find_born e es.toList hst.2.1 he
 have hrun:(Instr.entry (.pointer (some ⟨r,0,none⟩))).run P w= .ok (.tuple #[e.key,e.val]) w:=by
  simp only[Instr.entry,getObj,RA,Sem.run,hr,hb,Result.andThen,hbk,bne_self_eq_false,SE,SX,hf];rfl
 simp only[execOp,hρ hx,RA,hrun,Rs,RJ,hk,hv]
def qo(m:cV)(s:ByteArray)(c:Nat):cV:=wM (tO m s) s c
def EG(m:cV)(s:ByteArray)(c:Nat):∀ t,t∈bB (qo m s c)↔t=s\/t∈bB m:=λ t=>by
 unfold qo;rw[EE];exact(uP m s).2 t
def GJ(m:cV)(s t:ByteArray)(c:Nat):iq (qo m s c) t=if t=s then c else iq m t:=by
 unfold qo;rw[GH (uP m s).1,GI]
def yB(m:cV)(s:ByteArray)(c:Nat):(qo m s c).length<=m.length+1:=by
 unfold qo wM;rw[Rq];exact yA m s
def OpE.mapUpdate{x y z:Operand}{t k e:TypeId}{i b c:Nat}{m:cV}{s:ByteArray}(hu:P.underlying t=some (.map k e))(hks:P.underlying k=some .string)
  (hs:Sat w0 cs w) (hi:cs[i]? =some (qn b m)) (hx:aJ L x=some (.map (some b))) (hy:aJ L y=some (.string s)) (hz:aJ L z=some (.int .i64 ((c:Nat):Int)))
  (hk:∀ w',Sat w0 (cs.set i (qn b (qo m s c))) w'->K undef w'):OpE P n L w ⟨d,.mapUpdate t x y z,ty,pos,af,g⟩ K:=by
 obtain⟨es,clock,hb,hst,hc⟩:=hs.get hi;have hkey:IsKey .string (.string s):=trivial;have hn:=oS hst hc;rcases findNow_spec hkey es.toList 0 (yz hc)with⟨h1,h2⟩|⟨j,e0,h1,h2,h3⟩
 ·have hnm:s∉bB m:=λ hm=>by
   obtain⟨p,hp,rfl⟩:=Sk.1 hm;have:(Value.string p.1,Value.int .i64 (p.2:Int))∈cE es:=by rw[hc];exact Sk.2 ⟨p,hp,Y⟩
   obtain⟨x,hx,hxe⟩:=Sk.1 this;exact h2 x hx (by simpa using If Prod.fst hxe)
  refine .unit (w':={w with heap:=w.heap.setIfInBounds b (.map (es.push {key:=.string s,val:=.int .i64 ((c:Nat):Int),born:=clock}) (clock+1))}) (λ ρ hρ=>?_)
   (hk _ (hs.set i hi (lA _ hb) ⟨_,_,(TX hb).1,stamped_push hst h2,?_⟩ (λ _ h=>.inl h)))
  ·simp[execOp,hρ hx,hρ hy,hρ hz,Instr.mapUpdate,Rt hu,Tg hb,TS hks hkey,TV hks h1,Uv _ hb,Result.andThen]
  ·have e1:qo m s c=m++[(s,c)]:=by
    unfold qo tO wM;rw[M2 hnm,Si];have:m.map (λ p=>if p.1=s then(p.1,c)else p)=m:=by
     conv=>rhs;rw[<-map_id m]
     exact TD λ p hp=>M2 λ(e:p.1=s)=>hnm (e▸Sk.2 ⟨p,hp,Y⟩)
    rw[this];simp
   rw[e1];simp only[cE,Array.toList_push,Si,Sg,U3];rw[show es.toList.map (λ e=>(e.key,e.val))=bp m from hc];simp[bp]
 ·obtain⟨p0,hp0,hp0k,hp0v⟩:=Cp hc h2;have hp0s:p0.1=s:=by rw[hp0k]at h3;cases h3;rfl
  have hm:s∈bB m:=hp0s▸Sk.2 ⟨p0,Rv hp0,Y⟩;have hj:es[j]? =some e0:=by simpa using h2
  have hek:e0.key= .string s:=h3;have hkk:∀ e',es[j]? =some e'->({e' with key:=.string s,val:=.int .i64 ((c:Nat):Int)}:MapEntry).key=e'.key:=λ e' he'=>by rw[hj]at he';cases he';exact hek.symm
  refine .unit (w':={w with heap:=w.heap.setIfInBounds b (.map (es.modify j λ e=>{e with key:=.string s,val:=.int .i64 ((c:Nat):Int)}) clock)}) (λ ρ hρ=>?_)
   (hk _ (hs.set i hi (lA _ hb) ⟨_,_,(TX hb).1,stamped_modify hst j _ (λ _ _=>Y) (λ e' _ he'=>hkk e' he'),?_⟩ (λ _ h=>.inl h)))
  ·simp[execOp,hρ hx,hρ hy,hρ hz,Instr.mapUpdate,Rt hu,Tg hb,TS hks hkey,TV hks h1,hj,hek,MapKept.run_keyThatStays hkey,Uv _ hb,Result.andThen]
  ·have e1:qo m s c=wM m s c:=by unfold qo tO;rw[No hm]
   rw[e1];unfold cE bp wM;rw[U4];apply TL;intro q;rw[Rz,Rz,U2,Tv];have hcq:(es[q]?).map (λ e=>(e.key,e.val))=(m[q]?).map λ p=>(Value.string p.1,Value.int .i64 (p.2:Int)):=by
    have:=If (·[q]?) hc;simpa[cE,bp,Rz]using this
   by_cases hq:j=q
   ·subst hq;rw[No Y,hj,hp0];simp[Function.comp,hp0s]
   ·rw[M2 hq,hcq];cases hmq:m[q]? with
    |none=>rfl
    |some p=>
     have hne:p.1≠s:=λ e=>by
      have hql:q<(bB m).length:=by have:=(IN.1 hmq).1;simpa[bB]using this
      have e1:(bB m)[q]? =(bB m)[j]? :=by simp[bB,hmq,hp0,e,hp0s]
      exact hq ((getElem?_inj hql hn).1 e1).symm
     simp[Function.comp,hne]
def OpE.tE{x:Operand}{t:TypeId}{s:ByteArray}(hu:P.underlying t=some .string)(hs:Sat w0 cs w)(hx:aJ L x=some (.string s))
  (hk:∀ r w',Sat w0 (cs++[oR r s 0]) w'->K (.pointer (some ⟨r,0,none⟩)) w'):OpE P n L w ⟨d,.range t x,ty,pos,af,g⟩ K:=by
 refine .val (v:=.pointer (some ⟨w.heap.size,0,none⟩)) (w':=w.alloc (.stringIter s 0)) (λ ρ hρ=>?_) (hk _ _ (hs.add (.alloc _ _) (TN w _) (by simp[oR])));simp[execOp,hρ hx,Instr.range,Rt hu,go_sem]
def OpE.xD{x:Operand}{i r j:Nat}{s:ByteArray}(hs:Sat w0 cs w)(hi:cs[i]? =some (oR r s j))(hx:aJ L x=some (.pointer (some ⟨r,0,none⟩)))
  (hd:s.size<=j->K (.tuple #[.bool false]) w)
  (hm:∀ w',j<s.size->Sat w0 (cs.set i (oR r s (j+(dec (s.data.toList.drop j)).2))) w'->K (.tuple #[.bool true,.int .i64 ((j:Nat):Int),.int .i32 (((dec (s.data.toList.drop j)).1:Nat):Int)]) w'):OpE P n L w ⟨d,.next x true,ty,pos,af,g⟩ K:=by
 have hr:w.heap[r]? =some (.stringIter s j):=hs.get hi;have hg:(getObj r).run P w= .ok (.stringIter s j) w:=by simp[getObj,Sem.run,hr]
 by_cases hj:j<s.size
 ·have tX:=Bm s j;refine .val (v:=.tuple #[.bool true,.int .i64 ((j:Nat):Int),.int .i32 (((dec (s.data.toList.drop j)).1:Nat):Int)]) (w':={w with heap:=w.heap.setIfInBounds r (.stringIter s (j+(dec (s.data.toList.drop j)).2))}) (λ ρ hρ=>?_)
   (hm _ hj (hs.set i hi (lA _ hr) (TX hr).1 (λ _ h=>.inl h)))
  have hset:(setObj r (.stringIter s (j+(dec (s.data.toList.drop j)).2))).run P w= .ok () {w with heap:=w.heap.setIfInBounds r (.stringIter s (j+(dec (s.data.toList.drop j)).2))}:=by simp[setObj,Sem.run,hr]
  simp[execOp,hρ hx,Instr.next,hg,hj,tX,hset,Result.andThen,goInt]
 ·refine .val (v:=.tuple #[.bool false]) (w':=w) (λ ρ hρ=>?_) (hd (by omega));simp[execOp,hρ hx,Instr.next,hg,hj,Result.andThen]
def mo:∀ (x y:List UInt8),Op.bytesLess x y=decide (x<y)
 |[],[]=>by simp[Op.bytesLess]
 |_::_,[]=>by simp[Op.bytesLess]
 |[],_::_=>by simp[Op.bytesLess]
 |a::x,b::y=>by
  have e:(a==b)=decide (a=b):=by by_cases h:a=b<;>simp[h]
  rw[Op.bytesLess,mo x y,e];simp[cons_lt_cons_iff]
def nD(a b:ByteArray):Op.bytesLess a.toList b.toList=decide (SLt a b):=by
 rw[mo,TW,TW];rfl
def Ev.xH{x y:Operand}{t T:TypeId}{a b:ByteArray}(hx:aJ L x=some (.string a))(hy:aJ L y=some (.string b)):Ev P n L w ⟨d,.binOp .lss t x y T,ty,pos,af,g⟩ (.bool (decide (SLt a b))):=
 .bin hx hy (by rfl) λ w=>by rw[binOp_string_lss,nD];rfl
def Ev.pN{x y:Operand}{t T:TypeId}{a b:ByteArray}(hx:aJ L x=some (.string a))(hy:aJ L y=some (.string b)):Ev P n L w ⟨d,.binOp .geq t x y T,ty,pos,af,g⟩ (.bool (decide (¬ SLt a b))):=
 .bin hx hy (by rfl) λ w=>by rw[show binOp .geq t (.string a) (.string b)=pure (.bool !(Op.bytesLess a.toList b.toList)) by simp[binOp,Op.stringOp],nD];simp
def Ev.OB{x y:Operand}{t T:TypeId}{a b:ByteArray}(hx:aJ L x=some (.string a))(hy:aJ L y=some (.string b)):Ev P n L w ⟨d,.binOp .leq t x y T,ty,pos,af,g⟩ (.bool (decide (¬ SLt b a))):=
 .bin hx hy (by rfl) λ w=>by
  rw[show binOp .leq t (.string a) (.string b)=pure (.bool (Op.bytesLess a.toList b.toList||a.toList==b.toList)) by simp[binOp,Op.stringOp],nD,wL];have:(decide (SLt a b)||decide (a=b))=decide (¬ SLt b a):=by
   by_cases h:SLt a b
   ·simp[h,h.OO]
   ·by_cases e:a=b
    ·subst e;simp[SLt.qU]
    ·simp[h,e,SLt.Jr h e]
  rw[this];rfl
def Ev.Jk{x y:Operand}{t T:TypeId}{a b:ByteArray}(hx:aJ L x=some (.string a))(hy:aJ L y=some (.string b)):Ev P n L w ⟨d,.binOp .gtr t x y T,ty,pos,af,g⟩ (.bool (decide (SLt b a))):=
 .bin hx hy (by rfl) λ w=>by
  rw[show binOp .gtr t (.string a) (.string b)=pure (.bool !(Op.bytesLess a.toList b.toList||a.toList==b.toList)) by simp[binOp,Op.stringOp],nD,wL];have:(!(decide (SLt a b)||decide (a=b)))=decide (SLt b a):=by
   by_cases h:SLt a b
   ·simp[h,h.OO]
   ·by_cases e:a=b
    ·subst e;simp[SLt.qU]
    ·simp[h,e,SLt.Jr h e]
  rw[this];rfl
end
end Go.Kw
namespace Go.Kw
open Go.RowKit
def Mk(D:List Deferred)(a0 a:Act):Prop:=a.tmps=a0.tmps/\a.defers=a0.defers++D
theorem Mk.eval{D:List Deferred}{a0 a:Act}(h:Mk D a0 a):a.eval=a0.eval:=by
 funext x;cases x<;>simp[Act.eval,h.1]
theorem Mk.put{D:List Deferred}{a0 a:Act}(h:Mk D a0 a)(d:Option Nat)(v:Value):Mk D (a0.put d v) (a.put d v):=by
 cases d with
 |none=>exact h
 |some d=>exact⟨by simp[Act.put,h.1],h.2⟩
section
variable {P:Program} {n:Nat} {L:aA} {w:World} {K:aA->World->Prop} {ops:List Oper} {D:List Deferred}
def Kk{o:Oper}{a0 a:Act}(h:Mk D a0 a){next next':Act->World->Prop}{Q Q':Exit->Act->World->Prop}
  (hn:∀ b0 b w,Mk D b0 b->next b0 w->next' b w) (hq:∀ e b0 b w,Mk D b0 b->Q e b0 w->Q' e b w) (hl:¬ LetsOut Q) {r:Result Next} (H:o.upon P a0 next Q r):o.upon P a next' Q' r:=by
 cases r with
 |ok x w'=>
  cases x with
  |value v=>exact hn _ _ _ (h.put _ _) H
  |skip=>exact hn _ _ _ (h.put _ _) H
  |defer d=>exact hn _ _ _ (Mk.put (a0:={a0 with defers:=d::a0.defers}) (a:={a with defers:=d::a.defers}) ⟨h.1,by simp[h.2]⟩ _ _) H
  |enter f args=>
   rw[Oper.upon_enter]at H⊢;refine Tr H λ e w'' he=>?_;cases e with
   |returned v=>exact hn _ _ _ (h.put _ _) he
   |panicked c=>exact hq _ _ _ _ h he
   |outgrown=>exact absurd he hl
  |row row args=>
   rw[Oper.upon_row]at H⊢;exact Rows.mono H λ v w'' he=>hn _ _ _ (h.put _ _) he
  |_=>exact(H:False).elim
 |halt x w'=>
  cases x with
  |panic v=>exact hq _ _ _ _ h H
  |_=>exact(H:False).elim
def Be:¬ LetsOut (RQ n K):=λ⟨_,_,h⟩=>h
def oT{Q':Exit->Act->World->Prop}(hq:∀ e b0 b w,Mk D b0 b->RQ n K e b0 w->Q' e b w):∀ (l:List Oper) (a0 a:Act) (w:World),Mk D a0 a->wpList P ops.toArray (RQ n K) l a0 w->wpList P ops.toArray Q' l a w
 |[],a0,a,w,h,H=>hq _ _ _ _ h H
 |o::r,a0,a,w,h,H=>by
  unfold wpList at H⊢;rw[h.1];split at H
  ·rename_i hw
   rw[No hw];rcases H with H|⟨_,H⟩
   ·refine .inl ?_;unfold Oper.wp at H⊢;rw[h.eval];exact Kk h (λ b0 b w hb=>oT hq r b0 b w hb) hq Be H
   ·exact absurd H Be
  ·rename_i hw
   rw[M2 hw];exact oT hq r _ _ _ (h.put _ _) H
def lB(o:Oper):Bool:=match o.op with| .defer _=>false|_=>true
def Bf{o:Oper}(h:lB o=true):∀ c,o.op≠.defer c:=λ c e=>by simp[lB,e]at h
abbrev Qo(l:Nat):Fence:=Fence.wide.inRound l
def Kl{o:Oper}{a:Act}{next next':Act->World->Prop}{Q:Exit->Act->World->Prop}{F:Fence}{m:Nat}(hF:F=Fence.wide\/∃ l,F=Qo l)(hn:∀ b w,next b w->next' b w){r:Result Next}
  (H:o.upon P a next Q r):o.uponIn F m P a next' Q r:=by
 have hd:F.depth=none:=by rcases hF with rfl|⟨l,rfl⟩<;>rfl
 have hdep:F.depth.isSome=true->1<=m:=by rw[hd];simp
 have hcall:∀ {f args w' R},Calls P f args w' R->CallsIn F (m-1) P f args w' R:=λ{f args w' R} h=>by
  rcases hF with rfl|⟨l,rfl⟩
  ·exact VA.2 h
  ·exact CallsIn.inRound l (VA.2 h)
 cases r with
 |ok x w'=>
  cases x with
  |value v=>exact hn _ _ H
  |skip=>exact hn _ _ H
  |defer d=>exact hn _ _ H
  |enter f args=>
   rw[Oper.upon_enter]at H;rw[Oper.uponIn_enter];refine⟨hdep,hcall (Tr H λ e w'' he=>?_)⟩;cases e with
   |returned v=>exact hn _ _ he
   |panicked c=>exact he
   |outgrown=>exact he
  |row row args=>
   rw[Oper.upon_row]at H;rw[Oper.uponIn_row];refine⟨hdep,λ c cs _=>?_⟩;obtain⟨v,w'',hv,hs⟩:=H c cs;refine⟨v,w'',hn _ _ hv,?_⟩;rcases hF with rfl|⟨l,rfl⟩
   ·exact stepsIn_wide.2 hs
   ·have:StepsIn (Machine.fenced P Fence.wide) P (lone (Frame.ofRow P row args .normal) (c::cs) w') (lone (c.finish v) cs w''):=stepsIn_wide.2 hs;rwa[<-fenced_inRound P Fence.wide l]at this
  |_=>exact(H:False).elim
 |halt x w'=>
  cases x with
  |panic v=>exact H
  |_=>exact(H:False).elim
def rL{o:Oper}{a:Act}{next next':Act->World->Prop}{Q:Exit->Act->World->Prop}{F:Fence}{m:Nat}(hF:F=Fence.wide\/∃ l,F=Qo l)(hd:lB o=true)(hn:∀ b w,next b w->next' b w)
  (H:o.wp P a w next Q):o.wpIn F m P a w next' Q:=by
 refine⟨λ f _=>by rcases hF with rfl|⟨l,rfl⟩<;>trivial,?_⟩;rw[Oper.semAt_eq _ _ _ (Bf hd)];exact Kl hF hn H
def kL{F:Fence}{m:Nat}(hF:F=Fence.wide\/∃ l,F=Qo l):∀ (l:List Oper) (a:Act) (w:World),l.all lB=true->wpList P ops.toArray (RQ n K) l a w->wpListIn F m P ops.toArray (RQ n K) l a w
 |[],a,w,_,H=>H
 |o::r,a,w,hd,H=>by
  rw[List.all_cons,RC]at hd;unfold wpList at H;unfold wpListIn;split at H
  ·rename_i hw
   rw[No hw];rcases H with H|⟨_,H⟩
   ·exact rL hF hd.1 (λ b w hb=>kL hF r b w hd.2 hb) H
   ·exact absurd H Be
  ·rename_i hw
   rw[M2 hw];exact⟨λ f _=>by rcases hF with rfl|⟨l,rfl⟩<;>trivial,kL hF r _ _ hd.2 H⟩
end
def CWR(l:Nat)(P:Program)(n:Nat)(c:Code)(Q:Qs)(L:aA)(w:World):Prop:=∀ a,Fits n L a->c.wpIn (Qo l) 0 P (Ns n Q) a w
section
variable {lp:Nat} {P:Program} {n:Nat} {N R:aA->World->Prop} {X G:List (Nat×(aA->World->Prop))} {L:aA} {w:World}
theorem CWR.weaken{c:Code}{Q:Qs}(L':aA)(hw:Weak L' L)(h:CWR lp P n c Q L' w):CWR lp P n c Q L w:=λ a ha=>h a (ha.weaken hw)
theorem CWR.skip(h:N L w):CWR lp P n .skip ⟨N,R,X,G⟩ L w:=λ _ ha=>wpIn_skip ⟨L,ha,h⟩
theorem CWR.ret(h:R L w):CWR lp P n .ret ⟨N,R,X,G⟩ L w:=λ _ ha=>wpIn_ret ⟨L,ha,h⟩
theorem CWR.seq{x y:Code}(h:CWR lp P n x ⟨λ L w=>CWR lp P n y ⟨N,R,X,G⟩ L w,R,X,G⟩ L w):CWR lp P n (.seq x y) ⟨N,R,X,G⟩ L w:=λ a ha=>
 wpIn_seq (Vo (h a ha) λ e a' w' q=>by
  cases e<;>first|(obtain⟨L',hL,hc⟩:=q;exact hc a' hL)|exact q)
theorem CWR.cond{c:Operand}{x y:Code}{b:Bool}(hc:aJ L c=some (.bool b))(ht:b=true->CWR lp P n x ⟨N,R,X,G⟩ L w)(hf:b=false->CWR lp P n y ⟨N,R,X,G⟩ L w):CWR lp P n (.cond c x y) ⟨N,R,X,G⟩ L w:=
 λ a ha=>wpIn_cond_split (ha.eval hc) (λ h=>ht h a ha) (λ h=>hf h a ha)
theorem CWR.block{id:Nat}{c:Code}(h:CWR lp P n c ⟨N,R,(id,N)::X,G⟩ L w):CWR lp P n (.block id c) ⟨N,R,X,G⟩ L w:=λ a ha=>
 wpIn_block (Vo (h a ha) λ e a' w' q=>by
  cases e with
  |exit id'=>
   obtain⟨L',hL,hc⟩:=q;simp only[eF]at hc;simp only[Exit.inBlock];by_cases hid:id'=id
   ·subst hid;rw[No Y]at hc⊢;exact⟨L',hL,hc⟩
   ·rw[M2 hid];rw[M2 (λ e=>hid e.symm)]at hc;exact⟨L',hL,hc⟩
  |normal=>exact q
  |ret=>exact q
  |goto l=>exact q
  |panic c=>exact q
  |outgrown=>exact q)
theorem CWR.region{id:Nat}{l:List Oper}(hd:l.all lB=true:=by rfl)(h:RT P n l l N L w):CWR lp P n (.region id l.toArray false) ⟨N,R,X,G⟩ L w:=λ a ha=>
 Vo (wpIn_region_lit (kL (.inr ⟨lp,Y⟩) l a w hd (h a ha))) (RQ.lift (Q:=⟨N,R,X,G⟩))
end
def YieldV(P:Program)(l:Nat)(args:List Value)(w:World)(Φ:Bool->World->Prop):Prop:=
 YieldAt Fence.wide 0 P l args.toArray w λ e w'=>∃ b,e= .returned (.bool b)/\Φ b w'
def RTI(P:Program)(n:Nat)(ops:List Oper)(l:List Oper)(K:aA->World->Prop)(L:aA)(w:World):Prop:=
 ∀ a,Fits n L a->wpListIn Fence.wide 1 P ops.toArray (RQ n K) l a w
section
variable {P:Program} {n:Nat} {Q:Qs} {L:aA} {w:World} {K:aA->World->Prop} {ops:List Oper}
theorem RTI.nil(h:K L w):RTI P n ops [] K L w:=λ _ ha=>⟨L,ha,h⟩
theorem RTI.ev{o:Oper}{r:List Oper}{v:Value}(hg:o.guard=none)(hd:bV n o.dst=true)(he:Ev P n L w o v)(h:RTI P n ops r K (putK o.dst v L) w)(hnd:lB o=true:=by rfl):RTI P n ops (o::r) K L w:=λ a ha=>by
 unfold wpListIn;rw[No (by simp[Region.wanted,hg])];refine rL (.inl Y) hnd (next:=wpListIn Fence.wide 1 P ops.toArray (RQ n K) r) (λ _ _ h=>h) ?_;simp only[Oper.wp,he a ha,Oper.upon];exact h _ (ha.putK hd)
theorem RTI.yes{o:Oper}{r:List Oper}{j d:Nat}{b b':Bool}(hg:o.guard=some (j,b))(hj:tR ops j=some d)(hb:look L d=some (.bool b'))(hbb:b'=b)
  (h:RTI P n ops ({o with guard:=none}::r) K L w):RTI P n ops (o::r) K L w:=λ a ha=>by
 subst hbb;have h':=h a ha;unfold wpListIn at h'⊢;have:Region.wanted o (yielded ops.toArray a.tmps)=true:=by simp[Region.wanted,hg,ha.yielded hj hb]
 have h2:Region.wanted {o with guard:=none} (yielded ops.toArray a.tmps)=true:=by simp[Region.wanted]
 simp only[this,h2,TJ]at h'⊢;exact h'
theorem RTI.no{o:Oper}{r:List Oper}{j d:Nat}{b b':Bool}(hg:o.guard=some (j,b))(hj:tR ops j=some d)(hb:look L d=some (.bool b'))(hne:b'= !b)(hd:bV n o.dst=true)
  (h:RTI P n ops r K (putK o.dst undef L) w):RTI P n ops (o::r) K L w:=λ a ha=>by
 have:Region.wanted o (yielded ops.toArray a.tmps)=false:=by
  simp only[Region.wanted,hg,ha.yielded hj hb];subst hne;cases b<;>simp
 unfold wpListIn;rw[this];exact⟨λ _ _=>trivial,h _ (ha.putK hd)⟩
def RTI.yield{d:Option Nat}{t:Nat}{xs:List Operand}{ats:Array TypeId}{ty:TypeId}{pos:String}{af:Array Edge}{r:List Oper}{l:Nat}{vs:List Value}
  (hd:bV n d=true) (ht:look L t=some (.func (.yield l) #[] #[])) (hx:aJ L (.tmp t)=some (.func (.yield l) #[] #[])) (hxs:oY L xs=some vs)
  (h:YieldV P l vs w λ b w'=>RTI P n ops r K (putK d (.bool b) L) w'):RTI P n ops (⟨d,.call ⟨.value (.tmp t),xs.toArray,ats⟩,ty,pos,af,none⟩::r) K L w:=λ a ha=>by
 obtain⟨fn,tmps,assign,body,hy,hR⟩:=h;have he:=ha.Ak hxs;have hv:a.eval (.tmp t)= .func (.yield l) #[] #[]:=ha.eval hx;have hm:xs.toArray.map a.eval=vs.toArray:=by simp[he]
 have hrun:(execOp a.eval ⟨d,.call ⟨.value (.tmp t),xs.toArray,ats⟩,ty,pos,af,none⟩).run P w= .ok (.round l fn tmps assign body) w:=by
  have he2:(#[]:Array Value)++vs.toArray=vs.toArray:=by simp
  simp only[execOp,resolve,hm,hv,Deferred.ofValue,bind,Sem.bind,pure,invoke,he2,Array.append_empty];simpa only[Sem.run]using hy
 unfold wpListIn;rw[No (by simp[Region.wanted])];refine⟨λ _ _=>trivial,?_⟩;rw[show Fence.wide.round=none from Y,Oper.semAt_none,hrun,Oper.uponIn_round];refine⟨λ h=>(by cases h),RoundIn.mono hR ?_⟩;rintro e w' ⟨b,rfl,hb⟩;exact hb _ (ha.putK hd)
def CW.xE{id:Nat}{l:List Oper}{N R:aA->World->Prop}{X G:List (Nat×(aA->World->Prop))}(h:RTI P n l l N L w):CW P n (.region id l.toArray false) ⟨N,R,X,G⟩ L w:=λ a ha=>
 wpIn_wide.1 (Vo (wpIn_region_lit (h a ha)) (RQ.lift (Q:=⟨N,R,X,G⟩)))
end
def et(l:Nat)(r:Loop):Chunk where
 foot:=[l]
 holds w:=w.heap[l]? =some (.loop r)
 stable w w' h hc:=by rw[h l (by simp)];exact hc
def ir(b:Nat)(ds:Option (List Deferred)):Chunk where
 foot:=[b]
 holds w:=w.heap[b]? =some (.deferred ds)
 stable w w' h hc:=by rw[h b (by simp)];exact hc
def rM{w:World}{b:Nat}{o:Obj}(o':Obj)(hb:w.heap[b]? =some o):Chg [b] w (w.putObj b o'):=lA o' hb
def Sat.qS{w0 w:World}{cs:List Chunk}(h:Sat w0 cs w)(i:Nat){l:Nat}{r:Loop}(r':Loop)(hi:cs[i]? =some (et l r)):Sat w0 (cs.set i (et l r')) (w.putObj l (.loop r')):=
 h.set i hi (rM _ (h.get hi)) (World.putObj_heap_same (TH.1 (h.get hi)).1) (λ _ hk=>.inl hk)
def Sat.Jg{w0 w:World}{cs:List Chunk}(h:Sat w0 cs w)(i:Nat){b:Nat}{ds:Option (List Deferred)}(ds':Option (List Deferred))(hi:cs[i]? =some (ir b ds)):Sat w0 (cs.set i (ir b ds')) (w.putObj b (.deferred ds')):=
 h.set i hi (rM _ (h.get hi)) (World.putObj_heap_same (TH.1 (h.get hi)).1) (λ _ hk=>.inl hk)
def GK{α:Type}(P:Program)(gf:FuncId)(cb:List Value)(enc:α->List Value)(us:List α)(own:List Chunk)(w0:World):Prop:=
 ∀ (G:Type) (l:Nat) (C X:List α->G->List Chunk) (ds:List Chunk) (w:World) (g0:G),Sat w0 (own++(C [] g0++ds)) w->
  (∀ done u rest w2 es g,us=done++u::rest->Sat w0 (C done g++es) w2->
   YieldV P l (enc u) w2 λ b w3=>(b=true/\∃ g',Sat w0 (C (done++[u]) g'++es) w3)\/(b=false/\∃ g',Sat w0 (X (done++[u]) g'++es) w3))->
  CallsV P gf (.func (.yield l) #[] #[]::cb) w λ _ w'=>(∃ g,Sat w0 (own++(C us g++ds)) w')\/∃ done u rest g,us=done++u::rest/\Sat w0 (own++(X (done++[u]) g++ds)) w'
def Sat.swap{w0 w:World}{A B D:List Chunk}(h:Sat w0 (A++(B++D)) w):Sat w0 (B++(A++D)) w:=
 h.perm (by rw[<-KV,<-KV];exact UZ D Ui)
theorem YieldV.mono{P:Program}{l:Nat}{args:List Value}{w:World}{Φ Ψ:Bool->World->Prop}(h:YieldV P l args w Φ)(hk:∀ b w',Φ b w'->Ψ b w'):YieldV P l args w Ψ:=by
 obtain⟨fn,tmps,assign,body,hy,hR⟩:=h;exact⟨fn,tmps,assign,body,hy,RoundIn.mono hR λ e w' ⟨b,he,hb⟩=>⟨b,he,hk b w' hb⟩⟩
def CT(P:Program)(n:Nat)(c:Code)(M:Exit->Act->World->Prop)(L:aA)(w:World):Prop:=∀ a,Fits n L a->c.wp P M a w
theorem CT.seq{P:Program}{n:Nat}{x y:Code}{M:Exit->Act->World->Prop}{L:aA}{w:World}(h:CW P n x ⟨λ L w=>CT P n y M L w,λ _ _=>False,[],[]⟩ L w):CT P n (.seq x y) M L w:=λ a ha=>
 wp_seq (Uw (h a ha) λ e a' w' q=>by
  cases e with
  |normal=>obtain⟨L',hL,hc⟩:=q;exact hc a' hL
  |ret=>obtain⟨L',hL,hc⟩:=q;exact hc.elim
  |exit id=>obtain⟨L',hL,hc⟩:=q;exact(hc:False).elim
  |goto l=>obtain⟨L',hL,hc⟩:=q;exact(hc:False).elim
  |panic c=>exact(q:False).elim
  |outgrown=>exact(q:False).elim)
def CB(P:Program)(n:Nat)(x y:Code)(M:Exit->Act->World->Prop)(L:aA)(w:World):Prop:=∀ a,Fits n L a->x.wp P (Exit.then (y.wp P M) M) a w
def CT.Qm{P:Program}{n:Nat}{x y z:Code}{M:Exit->Act->World->Prop}{L:aA}{w:World}(h:CW P n x ⟨λ L w=>CB P n y z M L w,λ _ _=>False,[],[]⟩ L w):CT P n (.seq (.seq x y) z) M L w:=λ a ha=>
 wp_seq (wp_seq (Uw (h a ha) λ e a' w' q=>by
  cases e with
  |normal=>obtain⟨L',hL,hc⟩:=q;exact hc a' hL
  |ret=>obtain⟨L',hL,hc⟩:=q;exact hc.elim
  |exit id=>obtain⟨L',hL,hc⟩:=q;exact(hc:False).elim
  |goto l=>obtain⟨L',hL,hc⟩:=q;exact(hc:False).elim
  |panic c=>exact(q:False).elim
  |outgrown=>exact(q:False).elim))
def rN(P:Program)(n:Nat)(fn:Func)(Φ:Value->World->Prop):Exit->Act->World->Prop:=bodyPostM Fence.wide 1 P fn (QI Φ)
def nE{P:Program}{f:FuncId}{fn:Func}{c:Code}{args:List Value}{w:World}{Φ:Value->World->Prop}(hf:P.funcs[f]? =some fn)(hb:fn.body=some c)(hn:Nat.ble args.length fn.ntmps=true)
  (h:CT P fn.ntmps c (rN P fn.ntmps fn Φ) (initK args 0) w):CallsV P f args w Φ:=by
 refine(VA (n:=1)).1 (callsIn_of_wp_marks hf hb trivial (wpIn_wide.2 (h _ ⟨?_,?_,Y⟩)))
 ·have:=Sh hn;simp;omega
 ·intro t v hv;obtain⟨_,h2⟩:=mB args 0 t v hv;simp only[Uo]at h2;rw[V9];have hlt:t<args.length:=by
   rcases RG t args.length with h|h
   ·exact h
   ·simp[RN h]at h2
  simp[hlt]at h2⊢;exact h2
def rO{P:Program}{n:Nat}{fn:Func}{Φ:Value->World->Prop}{D:Nat}{a:Act}{L:aA}{w:World}(hF:Fits n L {a with defers:=[]})(hd:a.defers=[{target:=.collected D,args:= #[]}])
  (hD:w.heap[D]? =some (.deferred (some []))) (hp:aM P n fn Φ L (w.putObj D (.deferred none))):rN P n fn Φ .ret a w:=by
 obtain⟨v,hv,hΦ⟩:=hp _ hF;show LeavesInM Fence.wide 1 P fn a.tmps (QI Φ) a.defers .returning w;rw[hd];refine⟨by simp,.inl ⟨_,_,Y,run_takeDeferred hD,?_⟩⟩;exact⟨v,hv,v,Y,hΦ⟩
def yC{α G:Type}{P:Program}{n:Nat}{fn:Func}{Φ:Value->World->Prop}{bid t p rid:Nat}{assign body:Code}{l:List Oper}{gf:FuncId}{cap:Array Value}{w0 w:World}{L:aA}
  {enc:α->Value} {us:List α} {own cs:List Chunk} (UC UX:List α->G->List Chunk) (K3:α->Nat->aA) (UA:List α->G->α->Nat->List Chunk) (g0:G)
  (ht:look L t=some (.func (.func gf) #[] cap)) (hp:Nat.ble (p+1) n=true) (hf:Enters P gf) (h0:Sat w0 (UC [] g0++(own++cs)) w)
  (hit:GK P gf cap.toList (λ u=>[enc u]) us own w0)
  (hass:∀ lp done u rest w2 ds g,us=done++u::rest->Sat w0 (UC done g++ds) w2->CWR lp P n assign ⟨λ L3 w3=>∃ b,Weak (K3 u b) L3/\Sat w0 (UA done g u b++ds) w3,λ _ _=>False,[],[]⟩ ((p,enc u)::L) w2)
  (hbody:∀ lp done u rest b w2 ds g,us=done++u::rest->Sat w0 (UA done g u b++ds) w2->CWR lp P n body ⟨λ _ w3=>∃ g',Sat w0 (UC (done++[u]) g'++ds) w3,λ _ w3=>∃ g',Sat w0 (UX (done++[u]) g'++ds) w3,[],[]⟩ (K3 u b) w2)
  (hdone:∀ D w2 g,Sat w0 (UC us g++((own++cs)++[ir D (some [])])) w2->RT P n l l (λ L' w'=>∃ cs',Sat w0 (cs'++[ir D (some [])]) w'/\∀ w'',Sat w0 (cs'++[ir D none]) w''->aM P n fn Φ L' w'') L w2)
  (hstop:∀ done u rest D w2 g,us=done++u::rest->Sat w0 (UX (done++[u]) g++((own++cs)++[ir D none])) w2->aM P n fn Φ L w2):
  CB P n (.block bid (.rangeFunc (.tmp t) #[p] assign body)) (.seq (.region rid l.toArray false) .ret) (rN P n fn Φ) L w:=by
 intro a ha;have hd0:a.defers=[]:=ha.defers;have hmark:∀ (D:Nat) (a':Act),a'={a with defers:=[{target:=.collected D,args:= #[]}]++a.defers}->Mk [{target:=.collected D,args:= #[]}] a a':=λ D a' e=>by
  subst e;exact⟨Y,by simp[hd0]⟩
 have hend:∀ (D:Nat) (w4:World) g,Sat w0 (UC us g++((own++cs)++[ir D (some [])])) w4->
   (Code.seq (.region rid l.toArray false) .ret).wp P (rN P n fn Φ) {a with defers:=[{target:=.collected D,args:= #[]}]++a.defers} w4:=λ D w4 g hs4=>by
  refine wp_seq (wp_region_list ?_);have hw:=hdone D w4 g hs4 a ha;refine oT (D:=[{target:=.collected D,args:= #[]}]) ?_ _ a _ _ (hmark D _ Y) (by simpa using hw);rintro e b0 b w5 hb hq;cases e with
  |normal=>
   obtain⟨L',hL',cs',hs',hpost⟩:=hq;refine wp_ret ?_;have hget:w5.heap[D]? =some (.deferred (some [])):=(hs'.holds (ir D (some [])) (by simp)).1;have hD':(cs'++[ir D (some [])])[cs'.length]? =some (ir D (some [])):=by simp
   have hset:=hs'.Jg cs'.length none hD';rw[Sf _ _ (KD _),Se]at hset;refine rO (D:=D) (L:=L') ⟨by rw[hb.1];exact hL'.size,λ t v hv=>by show b.tmps[t]? =_;rw[hb.1];exact hL'.slot t v hv,Y⟩ (by rw[hb.2,hL'.defers];rfl) hget (hpost _ hset)
  |_=>exact(hq:False).elim
 have hstop':∀ (D:Nat) (w4:World) done u rest g,us=done++u::rest->Sat w0 (UX (done++[u]) g++((own++cs)++[ir D (some [])])) w4->
   rN P n fn Φ .ret {a with defers:=[{target:=.collected D,args:= #[]}]++a.defers} w4:=λ D w4 done u rest g hu hs4=>by
  have hget:w4.heap[D]? =some (.deferred (some [])):=(hs4.holds (ir D (some [])) (by simp)).1;have hs5:Sat w0 ((UX (done++[u]) g++(own++cs))++[ir D (some [])]) w4:=by rw[KV];exact hs4
  have hset:=hs5.Jg (b:=D) (ds:=some []) (UX (done++[u]) g++(own++cs)).length none (by simp);rw[Sf _ _ (KD _),Se,KV]at hset;exact rO (D:=D) (L:=L) ⟨ha.size,ha.slot,Y⟩ (by rw[hd0];rfl) hget (hstop done u rest D _ g hu hset)
 refine(wp_block (wpIn_wide (n:=1)|>.1 (wpIn_rangeFunc ?_)));intro f0 _;obtain⟨rec,hrec⟩:∃ rec:LoopState->Option Code->Loop,rec=λ st pe=>{state:=st,pending:=pe,fn:=f0,tmps:=a.tmps,params:= #[p],assign,body,defers:=w.heap.size}:=⟨_,Y⟩;have hW1:Sat w0 ((UC [] g0++(own++cs))++[ir w.heap.size (some [])]) (w.alloc (.deferred (some []))):=h0.add (.alloc _ _) (TN w _) (by simp[ir]);have hW2:Sat w0 (((UC [] g0++(own++cs))++[ir w.heap.size (some [])])++[et (w.heap.size+1) (rec .ready none)]) ((w.alloc (.deferred (some []))).alloc (.loop (rec .ready none))):=by
  have:=hW1.add (c:=et (w.heap.size+1) (rec .ready none)) (.alloc (w.alloc (.deferred (some []))) (.loop (rec .ready none))) (by have:=TN (w.alloc (.deferred (some []))) (.loop (rec .ready none));rwa[World.size_alloc]at this) (by simp[et]);exact this
 obtain⟨W2,hW⟩:∃ W2,(w.alloc (.deferred (some []))).alloc (.loop (rec .ready none))=W2:=⟨_,Y⟩;rw[hW]at hW2;have hperm:Sat w0 (own++((UC [] g0++[et (w.heap.size+1) (rec .ready none)])++(cs++[ir w.heap.size (some [])]))) W2:=by
  refine Sat.swap (hW2.perm ?_);rw[KV,KV,KV,KV];refine Tw _ ?_;rw[<-KV,<-KV,<-KV,KV own];exact Ui
 refine⟨w.heap.size+1,[{target:=.collected w.heap.size,args:= #[]}],W2,{target:=.fn (.func gf) cap,args:= #[.func (.yield (w.heap.size+1)) #[] #[]]},W2,gf,
  #[.func (.yield (w.heap.size+1)) #[] #[]]++cap,W2,?_,?_,?_,?_,λ _=>KD _,?_⟩
 ·rw[<-hW,hrec];exact run_enterLoop_outer _ _ _ _ _
 ·have hg:a.eval (.tmp t)= .func (.func gf) #[] cap:=ha.eval (show aJ L (.tmp t)=_ from ht);simp only[resolve,hg];simp[go_sem]
 ·intro f' _;trivial
 ·simp[invoke,go_sem];exact hf _ _
 ·have hI:=hit G (w.heap.size+1) (λ done g=>UC done g++[et (w.heap.size+1) (rec .ready none)])
   (λ done g=>UX done g++[et (w.heap.size+1) (rec .done (some .ret))]) (cs++[ir w.heap.size (some [])]) W2 g0 hperm ?_
  ·have hcall:Calls P gf (.func (.yield (w.heap.size+1)) #[] #[]::cap.toList).toArray W2 _:=hI;have hargs:(.func (.yield (w.heap.size+1)) #[] #[]::cap.toList).toArray= #[.func (.yield (w.heap.size+1)) #[] #[]]++cap:=by simp
   rw[hargs]at hcall;refine VA.2 (Tr hcall ?_);rintro e w3 ⟨v,rfl,hs3⟩;rcases hs3 with⟨g,hs3⟩|⟨done,u,rest,g,hu,hs3⟩
   ·replace hs3:=hs3.swap
    rw[<-KV own]at hs3;have hm:et (w.heap.size+1) (rec .ready none)∈(UC us g++[et (w.heap.size+1) (rec .ready none)])++((own++cs)++[ir w.heap.size (some [])]):=by simp
    have hl:=(hs3.holds _ hm).1;refine⟨none,w3.putObj (w.heap.size+1) (.loop {rec .ready none with state:=.exhausted}),?_,?_⟩
    ·have:=run_endLoop (P:=P) hl (by rw[hrec];simp);have hp:(rec .ready none).pending=none:=by rw[hrec]
     exact this.trans (by subst hrec;rfl)
    ·refine hend w.heap.size _ g ?_;have hs4:=hs3.qS (l:=w.heap.size+1) (r:=rec .ready none) (UC us g).length {rec .ready none with state:=.exhausted} (by simp);rw[KV,Sf _ _ (KD _),Se]at hs4;exact hs4.sub (List.Sublist.append (Vt _) (VH _ _))
   ·replace hs3:=hs3.swap
    rw[<-KV own]at hs3;have hm:et (w.heap.size+1) (rec .done (some .ret))∈(UX (done++[u]) g++[et (w.heap.size+1) (rec .done (some .ret))])++((own++cs)++[ir w.heap.size (some [])]):=by simp
    have hl:=(hs3.holds _ hm).1;refine⟨some .ret,w3.putObj (w.heap.size+1) (.loop {rec .done (some .ret)with state:=.exhausted}),?_,?_⟩
    ·have:=run_endLoop (P:=P) hl (by rw[hrec];simp);have hp:(rec .done (some .ret)).pending=some .ret:=by rw[hrec]
     exact this.trans (by subst hrec;rfl)
    ·refine wpIn_ret ?_;refine hstop' w.heap.size _ done u rest g hu ?_;have hs4:=hs3.qS (l:=w.heap.size+1) (r:=rec .done (some .ret)) (UX (done++[u]) g).length {rec .done (some .ret)with state:=.exhausted} (by simp);rw[KV,Sf _ _ (KD _),Se]at hs4;exact hs4.sub (List.Sublist.append (Vt _) (VH _ _))
  ·intro done u rest w2 es g hu hs2;have hm:et (w.heap.size+1) (rec .ready none)∈(UC done g++[et (w.heap.size+1) (rec .ready none)])++es:=by simp
   have hl:=(hs2.holds _ hm).1;have hy:=run_yield (P:=P) (args:= #[enc u]) hl (by rw[hrec];rfl);rw[hrec]at hy;refine⟨f0,_,assign,body,hy,roundIn_of_wpIn trivial ?_⟩;have hF1:Fits n ((p,enc u)::L) {tmps:=(#[p].zip #[enc u]).foldl (λ t (p,v)=>t.setIfInBounds p v) a.tmps,defers:=[]}:=by
    have:=ha.put (d:=p) (v:=enc u) (Sh hp);exact⟨by simpa[Act.put]using this.size,λ t v hv=>by have:=this.slot t v hv;simpa[Act.put]using this,Y⟩
   refine Vo (hass (w.heap.size+1) done u rest w2 ([et (w.heap.size+1) (rec .ready none)]++es) g hu (by rw[<-KV];exact hs2) _ hF1) ?_;rintro e a3 w3 hq;cases e with
   |normal=>
    obtain⟨L3,hL3,b,hK3,hs3⟩:=hq;have hm3:et (w.heap.size+1) (rec .ready none)∈UA done g u b++([et (w.heap.size+1) (rec .ready none)]++es):=by simp
    have hl3:=(hs3.holds _ hm3).1;have hs4:=hs3.qS (l:=w.heap.size+1) (r:=rec .ready none) (UA done g u b).length {rec .ready none with state:=.busy} (by simp);rw[Sf _ _ (KD _),Se]at hs4;refine⟨_,run_beginRound hl3 (by rw[hrec]),?_⟩;refine Vo (hbody (w.heap.size+1) done u rest b _ ([et (w.heap.size+1) {rec .ready none with state:=.busy}]++es) g hu hs4 a3 (hL3.weaken hK3)) ?_;rintro e2 a5 w5 hq5;have fin:∀ (jump:Option Code) (Y:List Chunk),Sat w0 (Y++([et (w.heap.size+1) {rec .ready none with state:=.busy}]++es)) w5->
      ∃ w6,(Instr.endRound (w.heap.size+1) jump).run P w5= .ok (.bool jump.isNone) w6/\Sat w0 ((Y++[et (w.heap.size+1) (rec (if jump.isNone then .ready else .done) jump)])++es) w6:=λ jump Y hY=>by
     have hl5:=(hY.holds (et (w.heap.size+1) {rec .ready none with state:=.busy}) (by simp)).1;have hs6:=hY.qS (l:=w.heap.size+1) (r:={rec .ready none with state:=.busy}) Y.length {({rec .ready none with state:=.busy}:Loop)with state:=if jump.isNone then .ready else .done,pending:=jump} (by simp);rw[Sf _ _ (KD _),Se]at hs6;refine⟨_,run_endRound (P:=P) jump hl5,?_⟩;rw[KV];rw[hrec]at hs6⊢;exact hs6
    cases e2 with
    |normal=>
     obtain⟨L5,_,g5,hs5⟩:=hq5;obtain⟨w6,h6,hs6⟩:=fin none _ hs5;exact⟨_,w6,h6,true,Y,.inl ⟨Y,g5,hs6⟩⟩
    |ret=>
     obtain⟨L5,_,g5,hs5⟩:=hq5;obtain⟨w6,h6,hs6⟩:=fin (some .ret) _ hs5;exact⟨_,w6,h6,false,Y,.inr ⟨Y,g5,hs6⟩⟩
    |exit id=>obtain⟨L5,_,hs5⟩:=hq5;exact(hs5:False).elim
    |goto t=>obtain⟨L5,_,hs5⟩:=hq5;exact(hs5:False).elim
    |panic c=>exact(hq5:False).elim
    |outgrown=>exact(hq5:False).elim
   |ret=>obtain⟨L3,_,h⟩:=hq;exact h.elim
   |exit id=>obtain⟨L3,_,h⟩:=hq;exact(h:False).elim
   |goto t=>obtain⟨L3,_,h⟩:=hq;exact(h:False).elim
   |panic c=>exact(hq:False).elim
   |outgrown=>exact(hq:False).elim
def j7(p:Prop):Chunk:=⟨[],λ _=>p,λ _ _ _ h=>h⟩
def Sat.pure{w0 w:World}{cs:List Chunk}{p:Prop}(h:Sat w0 cs w)(hp:p):Sat w0 (j7 p::cs) w:=
 ⟨h.old,λ c hc=>by
  rcases Rx.1 hc with rfl|hc
  ·exact⟨hp,λ k hk=>(by cases hk)⟩
  ·exact h.holds c hc,Sb.2 ⟨λ d _ k hk=>(by cases hk),h.apart⟩⟩
def Sat.Ja{w0 w:World}{cs:List Chunk}{p q:Prop}(h:Sat w0 (j7 p::cs) w)(hq:p->q):Sat w0 (j7 q::cs) w:=
 (h.sub (VH _ _)).pure (hq (h.holds (j7 p) (SI ..)).1)
def Sat.xF{w0 w:World}{cs:List Chunk}{p:Prop}(h:Sat w0 (j7 p::cs) w):p:=(h.holds (j7 p) (SI ..)).1
section
variable {P:Program} {n:Nat} {L:aA} {w:World} {d:Option Nat} {ty:TypeId} {pos:String} {af:Array Edge} {g:Option (Nat×Bool)}
def Ev.vX{x y:Operand}{f:FuncId}{v u:Value}(hx:aJ L x=some v)(hy:aJ L y=some u):Ev P n L w ⟨d,.makeFunc (.func f) #[] #[x,y],ty,pos,af,g⟩ (.func (.func f) #[] #[v,u]):=.of λ ρ hρ=>by
 simp[execOp,hρ hx,hρ hy,Instr.makeFunc,go_sem]
end
def ko:Enc Un:=⟨3,λ u=>[.int .i32 (u.r:Int),.int .i64 (u.at_:Int),.int .i64 (u.size:Int)],λ _=>Y,λ x v h=>by
 simp only[Rx,RF,Sa]at h;rcases h with rfl|rfl|rfl<;>rfl⟩
def tH(s:ByteArray):s.data.toList.length=s.size:=T4
def j8{s:ByteArray}{i:Nat}(h:i<s.size):cY s.data.toList i=⟨(dec (s.data.toList.drop i)).1,i,i+(dec (s.data.toList.drop i)).2-i⟩::cY s.data.toList (i+(dec (s.data.toList.drop i)).2):=by
 rw[gX (by rw[tH];exact h),SB]
def ea{s:ByteArray}{i:Nat}(h:i<s.size):i+(dec (s.data.toList.drop i)).2<=s.size:=by
 have:=yO (s:=s.data.toList) (i:=i) (by rw[tH];exact h);rwa[tH]at this
def qA{s:ByteArray}{i:Nat}(h:s.size<=i):cY s.data.toList i=[]:=fx (by rw[tH];exact h)
section
variable {P:Program} {n:Nat} {N R:aA->World->Prop} {X G:List (Nat×(aA->World->Prop))} {L:aA} {w:World}
def CW.Jf{l:Nat}{J:aA->World->Prop}(h:J L w):CW P n (.goto l) ⟨N,R,X,(l,J)::G⟩ L w:=CW.Q5 (by simp only[eF,No];exact h)
def CW.scope{c rest:Code}(l:Nat)(J:aA->World->Prop)(hf:findLabel c l=some rest)(h:CW P n c ⟨N,R,X,[(l,J)]⟩ L w)(pass:∀ L' w',J L' w'->CW P n rest ⟨N,R,X,[]⟩ L' w'):CW P n (.scope c) ⟨N,R,X,[]⟩ L w:=λ a ha=>by
 refine wp_scope_jumps l (λ a w=>∃ L,Fits n L a/\J L w) (λ _ _=>0) hf (Uw (h a ha) λ e a' w' q=>?_) λ a w hJ=>?_
 ·cases e with
  |goto l'=>
   obtain⟨L',hL,hq⟩:=q;simp only[eF]at hq;by_cases e:l=l'
   ·subst e;rw[No Y]at hq;exact⟨Y,L',hL,hq⟩
   ·rw[M2 e]at hq;exact hq.elim
  |normal=>exact q
  |ret=>exact q
  |exit id=>exact q
  |panic c=>exact q
  |outgrown=>exact q
 ·obtain⟨L',hL,hJ⟩:=hJ;refine Uw (pass L' w hJ a hL) λ e a' w' q=>?_;cases e with
  |goto l'=>obtain⟨L',hL,hq⟩:=q;exact(hq:False).elim
  |normal=>exact q
  |ret=>exact q
  |exit id=>exact q
  |panic c=>exact q
  |outgrown=>exact q
end
section
variable {P:Program} {n:Nat} {L:aA} {w w0:World} {cs:List Chunk} {K:Value->World->Prop} {d:Option Nat} {ty:TypeId} {pos:String} {af:Array Edge} {g:Option (Nat×Bool)}
def Ev.BX{T:TypeId}{pl:List (Nat×Nat)}{zs out:List Value}{parts:List (Nat×Operand)}{vs:List (Nat×Value)}(hb:BuildTy P T pl zs)(hp:cW L parts=some vs)(ho:Instr.fill (λ i=>pl.toArray[i]?) zs.toArray vs=some out.toArray):
  Ev P n L w ⟨d,.build T parts.toArray,ty,pos,af,g⟩ (.agg out.toArray):=.of λ ρ hρ=>by
 have he:∀ (parts:List (Nat×Operand)) (vs:List (Nat×Value)),cW L parts=some vs->parts.map (λ(i,x)=>(i,ρ x))=vs:=by
  intro parts;induction parts with
  |nil=>intro vs h;simp[cW]at h;simp[h]
  |cons p r ih=>
   intro vs h;obtain⟨i,x⟩:=p;simp only[cW,TC,SD]at h;obtain⟨v,hv,us,hus,rfl⟩:=h;simp[hρ hv,ih us hus]
 obtain⟨fs,hu,hpl⟩:=hb.und;have hz:=hb.zero;cases hi:P.info? T with
 |none=>simp[hi]at hz
 |some inf=>
  simp[hi]at hz;have hrun:(Instr.build T vs.toArray).run P w= .ok (.agg out.toArray) w:=by
   simp only[Instr.build,zeroValue,typeInfo,RA];simp[hi,hz,Rt hu];have:=hpl w;simp at this;have hfill':Instr.fill (λ x=>pl[x]?) zs.toArray vs=some out.toArray:=by simpa using ho
   simp[this,Value.cells,hfill']
  simp only[execOp];rw[show(parts.toArray.map λ(i,x)=>(i,ρ x))=vs.toArray by rw[TM,he parts vs hp]];simp only[RA,hrun,Rs,RJ]
end
section
variable {P:Program} {n:Nat} {L:aA} {w:World} {d:Option Nat} {x y:Operand} {xt yt ty:TypeId} {g:Option (Nat×Bool)} {k:IntKind}
def Ev.Q3{pos:String}{af:Array Edge}{a b:Nat}(hx:aJ L x=some (.int k (a:Int)))(hy:aJ L y=some (.int k (b:Int)))(hk:k.signed=false)(hb:0<b)(h:a<2^k.bits):Ev P n L w ⟨d,.binOp .quo xt x y yt,ty,pos,af,g⟩ (.int k ((a/b:Nat):Int)):=
 .bin hx hy (Sq ..) λ w=>by
  have h0:(b:Int)≠0:=by omega
  have h1:((a:Int).tdiv (b:Int))=((a/b:Nat):Int):=by rw[Int.tdiv_eq_ediv_of_nonneg (by omega)];simp
  have h2:k.wrap ((a/b:Nat):Int)=((a/b:Nat):Int):=pa hk (UK (SN a b) h);simp only[binOp,Op.intDiv,h0,SX,h1,h2,go_sem];simp[go_sem]
def Ev.fY{w0:World}{cs:List Chunk}{pos:String}{af:Array Edge}{T i b:Nat}{U:TypeId}{cells:List Value}{m:Nat}(hT:dS P T m=true)(hx:aJ L x=some (.pointer (some ⟨b,0,none⟩)))(hs:Sat w0 cs w)(hi:cs[i]? =some (aq b U cells))(hm:cells.length=m):
  Ev P n L w ⟨d,.load T x,ty,pos,af,g⟩ (.agg cells.toArray):=.of λ ρ hρ=>by
 subst hm;have hl:=TO (P:=P) w ⟨b,0,none⟩ cells (λ q u hu=>by rw[Sz,RX];exact hs.cell hi hu);have hag:(isAgg T).run P w= .ok true w:=by
  unfold dS at hT;cases hun:P.underlying T with
  |none=>simp[hun]at hT
  |some D=>cases D<;>simp[hun]at hT<;>simp[isAgg,Rt hun,go_sem]
 have hsz:(sizeOf T).run P w= .ok cells.length w:=by
  unfold dS at hT;cases hin:P.info? T with
  |none=>simp[hin]at hT
  |some inf=>simp[hin]at hT;simp[sizeOf,typeInfo,hin,hT.2,go_sem]
 have hld:(Instr.loadAt T (ρ x)).run P w= .ok (.agg cells.toArray) w:=by
  simp only[Instr.loadAt,loadVar,hρ hx,Instr.sureAddr,RA,RJ,Rs,hag,hsz,hl,TJ]
 simp only[execOp,RA,hld,Rs,RJ]
end
section
variable {α:Type} {E:Enc α} {P:Program} {n:Nat} {L:aA} {w w0:World} {cs:List Chunk} {K:Value->World->Prop} {d:Option Nat} {ty:TypeId} {pos:String} {af:Array Edge} {g:Option (Nat×Bool)}
def GL{l:List α}{j off:Nat}{a a':α}{u:Value}(ha:l[j]? =some a)(he:E.enc a'=(E.enc a).set off u)(ho:off<E.s):(E.all l).set (j*E.s+off) u=E.all (l.set j a'):=by
 have hj:j<l.length:=(IN.1 ha).1;have e1:l=l.take j++a::l.drop (j+1):=by
  have:=(IN.1 ha).2
  conv=>lhs;rw[<-RY j l,SP hj,this]
 have e2:l.set j a'=l.take j++a'::l.drop (j+1):=by
  rw[T6];simp[hj]
 have hl:(E.all (l.take j)).length=j*E.s:=by rw[E.all_length];simp;rw[Sr (by omega)]
 rw[e2,E.all_append,E.all_cons,he]
 conv=>lhs;rw[e1,E.all_append,E.all_cons]
 rw[Sf _ _ (by omega),hl,SB,Up _ _ (by rw[E.len];exact ho)]
def OpE.jy{x y:Operand}{T e j off:Nat}{v u:Value}{l:List α}{a:α}(i:Nat)(a':α)(hT:(P.info? T).map (·.size)=some 1)(hs:Sat w0 cs w)(hi:cs[i]? =some (cL v e E l))(hx:aJ L x=some (bN v (j*E.s+off)))
  (hy:aJ L y=some u) (h1:u.oneCell'=true) (ha:l[j]? =some a) (he:E.enc a'=(E.enc a).set off u) (ho:off<E.s) (hk:∀ w',Sat w0 (cs.set i (cL v e E (l.set j a'))) w'->Chg (bT v) w w'->K undef w'):OpE P n L w ⟨d,.store T x y,ty,pos,af,g⟩ K:=by
 have hj:j<l.length:=(IN.1 ha).1;have hlt:j*E.s+off<(E.all l).length:=by
  rw[E.all_length];have:(j+1)*E.s<=l.length*E.s:=SY _ hj;rw[Sp,Ts]at this;omega
 refine OpE.Dl hT hs hi hx hy h1 (py hlt) λ w' hS hC=>hk w' ?_ hC;rw[GL ha he ho]at hS;unfold cL;rw[Ro];exact hS
end
structure RU where
 r:Nat
 at_:Nat
 size:Nat
 ok:Bool
def ke:Enc RU:=⟨4,λ u=>[.int .i32 (u.r:Int),.int .i64 (u.at_:Int),.int .i64 (u.size:Int),.bool u.ok],λ _=>Y,λ x v h=>by
 simp only[Rx,RF,Sa]at h;rcases h with rfl|rfl|rfl|rfl<;>rfl⟩
def lC(u:Un):RU:=⟨u.r,u.at_,u.size,false⟩
def tP(u:Un):RU:=⟨u.r,u.at_,u.size,u.ok⟩
def dN{α:Type}{l:List α}{k:Nat}{x:α}(h:l[k]? =some x):l.drop k=x::l.drop (k+1):=by
 obtain⟨hk,rfl⟩:=IN.1 h;exact SP hk
def GM{α:Type}{p:α->Bool}{l:List α}{k:Nat}{x:α}(h:(l.take k).all p=true)(hx:l[k]? =some x)(hp:p x=true):(l.take (k+1)).all p=true:=by
 rw[VG,hx,List.all_append,h];simp[hp]
def wN(s:ByteArray)(u:Un):List UInt8:=(s.data.toList.drop u.at_).take u.size
def rP(s:ByteArray)(a b:Nat):(s.extract a b).data.toList=(s.data.toList.drop a).take (b-a):=by
 have:(s.extract a b).data=s.data.extract a b:=by simp
 rw[this,Array.toList_extract]
def EH(s:ByteArray)(u:Un):(s.extract u.at_ (u.at_+u.size)).data.toList=wN s u:=by
 rw[rP,SB];rfl
def P8(s:ByteArray)(us:List Un):ByteArray:=⟨(us.reverse.flatMap (wN s)).toArray⟩
def GN(s:ByteArray):P8 s (ec s.data.toList)=wP s:=by
 apply jm;show(ec s.data.toList).reverse.flatMap (wN s)=yM s.data.toList;unfold yM;rw[<-yP,<-map_reverse,VP];rfl
def cr(s:ByteArray):List Nat:=s.data.toList.map λ b=>b.toNat
def ay(s:ByteArray):(cr s).length=s.size:=by unfold cr;rw[Rq,tH]
def lD(s:ByteArray):∀ x∈cr s,x<256:=λ x hx=>by
 obtain⟨b,_,rfl⟩:=Sk.1 hx;exact b.toNat_lt
def oU{P:Program}{tx:TypeId}{w:World}(hk:P.underlying tx=some .string)(s:ByteArray):Src P 1 tx (.string s) (cr s).length ((a8 .u8).all (cr s)) w:=by
 have h:=Src.ofString w hk s;have e:(a8 .u8).all (cr s)=byteCells s:=by
  unfold cr byteCells;generalize s.data.toList=l;induction l with
  |nil=>rfl
  |cons b l ih=>rw[Sg,Sg,Enc.all_cons,ih];rfl
 rw[e,ay];exact h
def pU(l:List UInt8):strOf (l.map λ b=>b.toNat)=⟨l.toArray⟩:=by
 apply jm;simp[strOf,U4,U7]
def Bg(s:ByteArray)(us:List Un):List Nat:=us.reverse.flatMap λ u=>cr (s.extract u.at_ (u.at_+u.size))
def GO(s:ByteArray)(us:List Un):strOf (Bg s us)=P8 s us:=by
 have:Bg s us=(us.reverse.flatMap (wN s)).map λ b=>b.toNat:=by
  unfold Bg;rw[map_flatMap];congr 1;funext u;rw[cr,EH]
 rw[this,pU];rfl
def EI(s:ByteArray)(us:List Un)(u:Un):Bg s (u::us)=Bg s us++cr (s.extract u.at_ (u.at_+u.size)):=by
 simp[Bg]
def wO{us:List Un}{k:Nat}{u:Un}(hu:us[k]? =some u):((us.take k).map tP++(us.drop k).map lC)[k]? =some (lC u):=by
 have hk:=(IN.1 hu).1;rw[RO (by simp;exact Nat.min_le_left _ _),Rq,KW,Sr (by omega),Se,Rz,SZ,T7,hu];rfl
def Cq{us:List Un}{k:Nat}{u:Un}(hu:us[k]? =some u){b:Bool}(hb:b=u.ok):
  ((us.take k).map tP++(us.drop k).map lC).set k ⟨u.r,u.at_,u.size,b⟩=(us.take (k+1)).map tP++(us.drop (k+1)).map lC:=by
 obtain⟨hk,he⟩:=IN.1 hu;subst hb;have e1:us.take (k+1)=us.take k++[u]:=by rw[VG,hu];rfl
 have e2:us.drop k=u::us.drop (k+1):=by rw[SP hk,he]
 rw[Sf _ _ (by simp;exact Nat.min_le_left _ _),Rq,KW,Sr (by omega),Se,e2,e1];simp[tP]
def Km{u:Un}(h:(lC u).r≠65533):true=u.ok:=by
 have h1:u.r≠65533:=h;simp[Un.ok,h1]
def Kn{u:Un}(h:¬ (lC u).r≠65533):decide ((lC u).size=3)=u.ok:=by
 have h1:u.r=65533:=Sj.1 h;show decide (u.size=3)=_;by_cases h2:u.size=3<;>simp[Un.ok,h1,h2]
def Cr{l:List RU}{done:List Un}{r a:Nat}(hl:l=done.map lC++[⟨r,a,0,false⟩]):l[l.length-1]? =some ⟨r,a,0,false⟩:=by
 rw[hl];simp
def GP{l:List RU}{done:List Un}{r a:Nat}(z:Nat)(hl:l=done.map lC++[⟨r,a,0,false⟩]):l.set (l.length-1) ⟨r,a,z,false⟩=(done++[(⟨r,a,z⟩:Un)]).map lC:=by
 rw[hl,sp,Rq,KM,Sx,Sf _ _ (by simp),Rq,Se];simp[lC]
def GQ{P:Program}{n:Nat}{L:aA}{w:World}{fn:Func}{Φ:Value->World->Prop}{t T b:Nat}{u:Value}(hr:fn.results= #[.cell t T])(hv:look L t=some (.pointer (some ⟨b,0,none⟩)))(hT:dI P T=true)
  (hc:w.cell? ⟨b,0,none⟩=some u) (h:Φ u w):aM P n fn Φ L w:=λ a ha=>by
 have h1:=ha.slot t _ hv;refine⟨_,?_,h⟩;have hl:(loadVar T ⟨b,0,none⟩).run P w= .ok u w:=by
  unfold dI at hT;cases hun:P.underlying T with
  |none=>simp[hun]at hT
  |some D=>cases D<;>simp[hun]at hT<;>simp[loadVar,isAgg,Rt hun,hc,go_sem]
 simp[results,hr,SU,h1,asAddr,hl]
def Ev.OA{P:Program}{n:Nat}{L:aA}{w:World}{d:Option Nat}{ty:TypeId}{pos:String}{af:Array Edge}{g:Option (Nat×Bool)}{x y:Operand}{t T:TypeId}{a b:ByteArray}
  (hx:aJ L x=some (.string a)) (hy:aJ L y=some (.string b)) (h:a.size+b.size<=9223372036854775807):Ev P n L w ⟨d,.binOp .add t x y T,ty,pos,af,g⟩ (.string (a++b)):=
 .bin hx hy (by rfl) λ w=>by rw[binOp_string_add];exact run_string_add_sum w a b h
def Nc(P:Program)(t:Nat):Bool:=match P.info? t with
 |some i=>Nat.beq i.size 1
 |none=>false
def EJ{P:Program}{t:Nat}(h:Nc P t=true):(P.info? t).map (·.size)=some 1:=by
 unfold Nc at h;split at h
 ·rename_i i hi;rw[hi];simp[SL h]
 ·cases h
def Nf(P:Program)(t:Nat)(k:IntKind):Bool:=match P.underlying t with
 |some (.int k')=>decide (k'=k)
 |_=>false
def GR{P:Program}{t:Nat}{k:IntKind}(h:Nf P t k=true):P.underlying t=some (.int k):=by
 unfold Nf at h;split at h
 ·rename_i k' hu;have:=Sw h;subst this;exact hu
 ·cases h
def yD(P:Program)(T:Nat):Nat->List Nat->Bool
 |_,[]=>true
 |i,o::r=>kO P T i o&&yD P T (i+1) r
def GS(P:Program):List (Nat×Nat×Nat×Value×Nat)->Prop
 |[]=>True
 |(t,e,s,z,b)::r=>SlTy P t e s z b/\GS P r
def oV{P:Program}{t e s b:Nat}{z:Value}:∀ {l:List (Nat×Nat×Nat×Value×Nat)},GS P l->(t,e,s,z,b)∈l->SlTy P t e s z b
 |[],_,h=>by cases h
 |(_,_,_,_,_)::r,hl,h=>by
  rcases Rx.1 h with h|h
  ·cases h;exact hl.1
  ·exact oV hl.2 h
def GU(P:Program):List (Nat×Value)->Prop
 |[]=>True
 |(t,z)::r=>(P.info? t).map (·.zero)=some (some z)/\GU P r
def uQ{P:Program}{t:Nat}{z:Value}:∀ {l:List (Nat×Value)},GU P l->(t,z)∈l->(P.info? t).map (·.zero)=some (some z)
 |[],_,h=>by cases h
 |(_,_)::r,hl,h=>by
  rcases Rx.1 h with h|h
  ·cases h;exact hl.1
  ·exact uQ hl.2 h
class Tb(P:Program) where
 fl:List (Nat×List Nat)
 fok:fl.all (λ e=>yD P e.1 0 e.2)=true
 it:List (Nat×IntKind)
 iok:it.all (λ e=>Nf P e.1 e.2)=true
 sc:List Nat
 sok:sc.all (dI P)=true
 ook:sc.all (Nc P)=true
 ag:List (Nat×Nat)
 gok:ag.all (λ e=>dS P e.1 e.2)=true
 sl:List (Nat×Nat×Nat×Value×Nat)
 lok:GS P sl
 zr:List (Nat×Value)
 zok:GU P zr
class Ent(P:Program)(f:FuncId):Prop where
 h:Enters P f
def dO{α:Type}:List (Nat×α)->Nat->Option α
 |[],_=>none
 |(t,a)::r,T=>cond (Nat.beq t T) (some a) (dO r T)
def eb{α:Type}{T:Nat}{a:α}:∀ {l:List (Nat×α)},dO l T=some a->(T,a)∈l
 |[],h=>by cases h
 |(t,b)::r,h=>by
  simp only[dO]at h;cases hb:Nat.beq t T with
  |true=>rw[hb]at h;cases h;have:=SL hb;subst this;exact SI
  |false=>rw[hb]at h;exact Sl _ (eb h)
def uR{P:Program}{T:Nat}:∀ {l:List Nat} {i f o:Nat},yD P T i l=true->l[f]? =some o->kO P T (i+f) o=true
 |[],_,_,_,_,h=>by cases h
 |a::r,i,0,o,hl,h=>by simp only[yD,RC]at hl;simp at h;subst h;exact hl.1
 |a::r,i,f+1,o,hl,h=>by
  simp only[yD,RC]at hl;have:=uR hl.2 (f:=f) (by simpa using h);rwa[show i+(f+1)=i+1+f by omega]
section
variable {P:Program} [Tb P]
def Tb.Qu{T f o:Nat}{l:List Nat}(h:dO (Tb.fl P) T=some l)(hl:l[f]? =some o):kO P T f o=true:=by
 have:=Sy.1 (Tb.fok (P:=P)) _ (eb h);have:=uR this hl;rwa[RX]at this
def Tb.int{t:Nat}{k:IntKind}(h:dO (Tb.it P) t=some k):P.underlying t=some (.int k):=
 GR (Sy.1 (Tb.iok (P:=P)) _ (eb h))
end
def nV(L:aA):Operand->Option (IntKind×Nat)
 | .const (.int k (.ofNat b))=>some (k,@OfNat.ofNat Nat b (instOfNatNat b))
 | .tmp t=>match look L t with
  |some (.int k (.ofNat b))=>some (k,b)
  |_=>none
 |_=>none
def yE{L:aA}{x:Operand}{k:IntKind}{a:Nat}(h:nV L x=some (k,a)):aJ L x=some (.int k (a:Int)):=by
 unfold nV at h;split at h
 ·cases h;rfl
 ·rename_i t
  split at h
  ·rename_i k' b hl;cases h;exact hl
  ·cases h
 ·cases h
def Mf(b:Nat):Option Nat:=dO [(127,7),(1,1),(255,8),(3,2),(7,3),(15,4),(31,5),(63,6)] b
def GV{b m:Nat}(h:Mf b=some m):b=2^m-1:=by
 have:=eb h;simp only[Rx,RW,RF,Sa]at this;rcases this with⟨rfl,rfl⟩|⟨rfl,rfl⟩|⟨rfl,rfl⟩|⟨rfl,rfl⟩|⟨rfl,rfl⟩|⟨rfl,rfl⟩|⟨rfl,rfl⟩|⟨rfl,rfl⟩<;>rfl
def binC(k:IntKind)(a:Nat)(k':IntKind)(b:Nat):BinOp->Option (Value×List Prop)
 | .add=>match k with
  | .i64=>some (.int .i64 ((a+b:Nat):Int),[k'= .i64,a+b<=9223372036854775807])
  |_=>none
 | .sub=>match k with
  | .i64=>some (.int .i64 ((a-b:Nat):Int),[k'= .i64,b<=a,a<=9223372036854775807])
  |_=>none
 | .mul=>match k with
  | .i64=>some (.int .i64 ((a*b:Nat):Int),[k'= .i64,a*b<=9223372036854775807])
  |_=>none
 | .lss=>some (.bool (decide (a<b)),[k'=k])
 | .leq=>some (.bool (decide (a<=b)),[k'=k])
 | .gtr=>some (.bool (decide (b<a)),[k'=k])
 | .geq=>some (.bool (decide (b<=a)),[k'=k])
 | .eql=>some (.bool (decide (a=b)),[k'=k])
 | .neq=>some (.bool (decide (a≠b)),[k'=k])
 | .shr=>some (.int k ((a/2^b:Nat):Int),[a<2^k.bits])
 | .shl=>some (.int k ((a*2^b%2^k.bits:Nat):Int),[k.signed=false,b<=k.bits])
 | .or=>some (.int k ((a|||b:Nat):Int),[k'=k,k.signed=false,a<2^k.bits,b<2^k.bits])
 | .and=>match Mf b with
  |some m=>some (.int k ((a%2^m:Nat):Int),[k'=k,k.signed=false,a<2^k.bits,b<2^k.bits])
  |none=>none
 |_=>none
def All:List Prop->Prop
 |[]=>True
 |p::r=>p/\All r
theorem All.app:∀ {a b:List Prop},All (a++b)->All a/\All b
 |[],_,h=>⟨trivial,h⟩
 |_::_,_,h=>⟨⟨h.1,(All.app h.2).1⟩,(All.app h.2).2⟩
def EK(P:Program)[Tb P](L:aA):Op->Option (Value×List Prop)
 | .move x=>match x with
  | .const (.int k (.ofNat b))=>some (.int k ((@OfNat.ofNat Nat b (instOfNatNat b):Nat):Int),[])
  |x=>(aJ L x).map λ v=>(v,[])
 | .assign x=>match x with
  | .const (.int k (.ofNat b))=>some (.int k ((@OfNat.ofNat Nat b (instOfNatNat b):Nat):Int),[])
  |x=>(aJ L x).map λ v=>(v,[])
 | .extract x i=>match aJ L x with
  |some (.tuple vs)=>(vs[i]?).map λ v=>(v,[])
  |_=>none
 | .nilCheck x=>match aJ L x with
  |some (.pointer (some p))=>some (.pointer (some p),[])
  |_=>none
 | .fieldAddr T x f=>match aJ L x with
  |some (.pointer (some ⟨b,o,none⟩))=>match dO (Tb.fl P) T with
   |some l=>(match l[f]? with
    |some off=>cond (Nat.beq o 0) (some (.pointer (some ⟨b,off,none⟩),[])) (some (.pointer (some ⟨b,o+off,none⟩),[]))
    |none=>none)
   |none=>none
  |_=>none
 | .convert s t x=>match nV L x with
  |some (_,a)=>match dO (Tb.it P) s with
   |some _=>match dO (Tb.it P) t with
    |some k=>cond k.signed (match k with
     | .i64=>some (.int .i64 ((a:Nat):Int),[a<2^63])
     |_=>none) (some (.int k ((a:Nat):Int),[a<2^k.bits]))
    |none=>none
   |none=>none
  |none=>none
 | .pick c x y=>match aJ L c with
  |some (.bool true)=>(aJ L x).map λ v=>(v,[])
  |some (.bool false)=>(aJ L y).map λ v=>(v,[])
  |_=>none
 | .unOp op _ x=>match op with
  | .not=>match aJ L x with
   |some (.bool true)=>some (.bool false,[])
   |some (.bool false)=>some (.bool true,[])
   |_=>none
  |_=>none
 | .binOp op _ x y _=>match nV L x with
  |some (k,a)=>match nV L y with
   |some (k',b)=>binC k a k' b op
   |none=>none
  |none=>none
 |_=>none
section
variable {P:Program} [Tb P] {n:Nat} {L:aA} {w:World} {d:Option Nat} {ty:TypeId} {pos:String} {af:Array Edge} {g:Option (Nat×Bool)}
theorem Ev.binC{op:BinOp}{x y:Operand}{xt yt:TypeId}{k k':IntKind}{a b:Nat}{v:Value}{C:List Prop}(hx:nV L x=some (k,a))(hy:nV L y=some (k',b))(h:binC k a k' b op=some (v,C))(hC:All C):Ev P n L w ⟨d,.binOp op xt x y yt,ty,pos,af,g⟩ v:=by
 have hx:=yE hx;have hy:=yE hy;cases op<;>simp only[Kw.binC]at h<;>try (cases h;done)
 case add=>split at h<;>cases h;obtain⟨rfl,h1,_⟩:=hC;exact .M6 hx hy h1
 case sub=>split at h<;>cases h;obtain⟨rfl,h1,h2,_⟩:=hC;exact .Ov hx hy h1 h2
 case mul=>split at h<;>cases h;obtain⟨rfl,h1,_⟩:=hC;exact .QX hx hy h1
 case lss=>cases h;obtain⟨rfl,_⟩:=hC;exact .QV hx hy
 case leq=>cases h;obtain⟨rfl,_⟩:=hC;exact .R3 hx hy
 case gtr=>cases h;obtain⟨rfl,_⟩:=hC;exact .R1 hx hy
 case geq=>cases h;obtain⟨rfl,_⟩:=hC;exact .Qh hx hy
 case eql=>cases h;obtain⟨rfl,_⟩:=hC;exact .QZ hx hy
 case neq=>cases h;obtain⟨rfl,_⟩:=hC;exact .QS hx hy
 case shr=>cases h;exact .M7 hx hy hC.1
 case shl=>cases h;exact .Ra hx hy hC.1 hC.2.1
 case or=>cases h;obtain⟨rfl,h1,h2,h3,_⟩:=hC;exact .Rg hx hy h1 h2 h3
 case and=>
  split at h
  ·rename_i m hm;cases h;obtain⟨rfl,h1,h2,h3,_⟩:=hC;exact .IY m hx hy h1 (GV hm) h2 h3
  ·cases h
def yF{x:Operand}{v:Value}{C:List Prop}(h:EK P L (.move x)=some (v,C)):aJ L x=some v:=by
 simp only[EK]at h;split at h
 ·cases h;rfl
 ·cases hv:aJ L x with
  |none=>simp[hv]at h
  |some u=>simp[hv]at h;rw[h.1]
def Ev.C{op:Op}{v:Value}{C:List Prop}(h:EK P L op=some (v,C))(hC:All C):Ev P n L w ⟨d,op,ty,pos,af,g⟩ v:=by
 cases op<;>try (cases h;done)
 case move x=>exact .move (yF h)
 case assign x=>exact .assign (yF (P:=P) h)
 case extract x i=>
  simp only[EK]at h;split at h
  ·rename_i vs hx
   cases hv:vs[i]? with
   |none=>simp[hv]at h
   |some u=>simp[hv]at h;obtain⟨rfl,_⟩:=h;exact .extract hx hv
  ·cases h
 case nilCheck x=>
  simp only[EK]at h;split at h
  ·rename_i p hx;cases h;exact .nilCheck hx
  ·cases h
 case fieldAddr T x f=>
  simp only[EK]at h;split at h
  ·rename_i b o hx
   split at h
   ·rename_i l hl
    cases ho:l[f]? with
    |none=>simp[ho]at h
    |some off=>
     simp only[ho]at h;cases hb:Nat.beq o 0 with
     |true=>rw[hb]at h;cases h;have:=SL hb;subst this;exact .fieldAddr (Tb.Qu hl ho) hx (by simp)
     |false=>rw[hb]at h;cases h;exact .fieldAddr (Tb.Qu hl ho) hx Y
   ·cases h
  ·cases h
 case convert s t x=>
  simp only[EK]at h;split at h
  ·rename_i k0 a hx
   split at h
   ·rename_i ks hs
    split at h
    ·rename_i k ht
     have hx:=yE hx;have h1:(P.underlying s).isSome=true:=by rw[Tb.int hs];rfl
     cases hk:k.signed with
     |true=>
      rw[hk]at h;simp only[Uk]at h;split at h<;>cases h;exact .J5 h1 (Tb.int ht) hx (rU hC.1)
     |false=>rw[hk]at h;cases h;exact .J5 h1 (Tb.int ht) hx (pa hk hC.1)
    ·cases h
   ·cases h
  ·cases h
 case pick c x y=>
  simp only[EK]at h;split at h
  ·rename_i hc
   cases hv:aJ L x with
   |none=>simp[hv]at h
   |some u=>simp[hv]at h;obtain⟨rfl,_⟩:=h;exact .km hc hv
  ·rename_i hc
   cases hv:aJ L y with
   |none=>simp[hv]at h
   |some u=>simp[hv]at h;obtain⟨rfl,_⟩:=h;exact .MS hc hv
  ·cases h
 case unOp o t x=>
  simp only[EK]at h;split at h
  ·split at h
   ·rename_i hx;cases h;exact .cJ hx
   ·rename_i hx;cases h;exact .cJ hx
   ·cases h
  ·cases h
 case binOp op xt x y yt=>
  simp only[EK]at h;split at h
  ·rename_i k a hx
   split at h
   ·rename_i k' b hy;exact Ev.binC hx hy h hC
   ·cases h
  ·cases h
def gC(ops:List Oper)(L:aA):Option (Nat×Bool)->Option Bool
 |none=>some true
 |some (j,b)=>match tR ops j with
  |none=>none
  |some d=>match look L d with
   |some (.bool true)=>some b
   |some (.bool false)=>some (!b)
   |some (.tuple ⟨[]⟩)=>some false
   |_=>none
def QE(o:Oper):Oper:={o with guard:=none}
theorem RT.gT{ops r:List Oper}{K:aA->World->Prop}{o:Oper}(h:gC ops L o.guard=some true)(hk:RT P n ops (QE o::r) K L w):RT P n ops (o::r) K L w:=by
 cases hg:o.guard with
 |none=>rw[show QE o=o by unfold QE;rw[<-hg]]at hk;exact hk
 |some q=>
  obtain⟨j,b⟩:=q;rw[hg]at h;simp only[gC]at h;split at h
  ·cases h
  ·rename_i d hd
   split at h<;>first|(cases h;done)|skip
   ·rename_i hl;cases h;exact RT.yes hg hd hl Y hk
   ·rename_i hl;cases b<;>cases h;exact RT.yes hg hd hl Y hk
theorem RT.gF{ops r:List Oper}{K:aA->World->Prop}{o:Oper}(h:gC ops L o.guard=some false)(ho:bV n o.dst=true)(hk:RT P n ops r K (putK o.dst undef L) w):RT P n ops (o::r) K L w:=by
 cases hg:o.guard with
 |none=>rw[hg]at h;cases h
 |some q=>
  obtain⟨j,b⟩:=q;rw[hg]at h;simp only[gC]at h;split at h
  ·cases h
  ·rename_i d hd
   split at h<;>first|(cases h;done)|skip
   ·rename_i hl;cases b<;>cases h;exact RT.no hg hd hl Y ho hk
   ·rename_i hl;cases b<;>cases h;exact RT.no hg hd hl Y ho hk
   ·rename_i hl;exact RT.Rl hg hd hl ho hk
def qp(P:Program)[Tb P](n:Nat)(ops:List Oper):Nat->List Oper->aA->List Prop->Option (aA×List Oper×List Prop)
 |0,l,L,C=>some (L,l,C)
 |_+1,[],_,_=>none
 |k+1,⟨d,op,_,_,_,g⟩::l,L,C=>cond (bV n d) (match gC ops L g with
  |some true=>(match EK P L op with
   |some (v,c)=>qp P n ops k l (putK d v L) (c++C)
   |none=>none)
  |some false=>qp P n ops k l (putK d undef L) C
  |none=>none) none
def iE{ops r:List Oper}{K:aA->World->Prop}:∀ (k:Nat) {l:List Oper} {L L':aA} {C C':List Prop},qp P n ops k l L C=some (L',r,C')->All C'->(All C->RT P n ops r K L' w)->All C/\RT P n ops l K L w
 |0,l,L,L',C,C',h,hC,hk=>by simp only[qp,Th,RW]at h;obtain⟨rfl,rfl,rfl⟩:=h;exact⟨hC,hk hC⟩
 |k+1,[],L,L',C,C',h,hC,hk=>by simp[qp]at h
 |k+1,⟨d,op,ty,pos,af,g⟩::l,L,L',C,C',h,hC,hk=>by
  simp only[qp]at h;cases hb:bV n d with
  |false=>rw[hb]at h;cases h
  |true=>
   rw[hb]at h;simp only[Uk]at h;split at h
   ·rename_i hg
    split at h
    ·rename_i v c hv
     have:=iE k h hC (λ hc=>hk (All.app hc).2);have h2:=All.app this.1;exact⟨h2.2,RT.gT (o:=⟨d,op,ty,pos,af,g⟩) hg (RT.ev (o:=⟨d,op,ty,pos,af,none⟩) Y hb (Ev.C hv h2.1) this.2)⟩
    ·cases h
   ·rename_i hg
    have:=iE k h hC hk;exact⟨this.1,RT.gF (o:=⟨d,op,ty,pos,af,g⟩) hg hb this.2⟩
   ·cases h
def eu(P:Program)[Tb P](n:Nat)(ops:List Oper)(k:Nat)(l:List Oper)(L:aA):Option (Oper×List Oper×aA×List Prop):=match qp P n ops k l L []with
 |some (L',⟨d,op,ty,pos,af,g⟩::r,C)=>cond (bV n d) (match gC ops L' g with
  |some true=>some (⟨d,op,ty,pos,af,none⟩,r,L',C)
  |_=>none) none
 |_=>none
def cF{ops l r:List Oper}{K:aA->World->Prop}{o:Oper}{k:Nat}{L':aA}{C:List Prop}(h:eu P n ops k l L=some (o,r,L',C))(hC:All C)(hk:bV n o.dst=true->o.guard=none->RT P n ops (o::r) K L' w):RT P n ops l K L w:=by
 unfold eu at h;split at h
 ·rename_i L1 d op ty pos af g r1 C1 hr
  cases hb:bV n d with
  |false=>rw[hb]at h;cases h
  |true=>
   rw[hb]at h;simp only[Uk]at h;split at h
   ·rename_i hg
    cases h;exact(iE k hr hC (λ _=>RT.gT (o:=⟨d,op,ty,pos,af,g⟩) hg (hk hb Y))).2
   ·cases h
 ·cases h
section
variable {ops l r:List Oper} {K:aA->World->Prop} {L':aA} {C:List Prop}
theorem RT.z(k:Nat)(h:qp P n ops k l L []=some (L',r,C))(hk:RT P n ops r K L' w)(hC:All C:=by(repeat (first|exact trivial|refine⟨by first|rfl|omega|(simp only[IntKind.bits];omega),?_⟩))):RT P n ops l K L w:=(iE k h hC (λ _=>hk)).2
theorem RT.Z(h:qp P n ops l.length l L []=some (L',[],C))(hk:K L' w)(hC:All C:=by(repeat (first|exact trivial|refine⟨by first|rfl|omega|(simp only[IntKind.bits];omega),?_⟩))):RT P n ops l K L w:=(iE _ h hC (λ _=>.nil hk)).2
theorem RT.G{b c:Bool}(t:Nat)(h:look L t=some (.bool b))(hb:b=c)(hk:RT P n ops l K ((t,.bool c)::L) w):RT P n ops l K L w:=by
 subst hb;intro a ha;refine hk a ⟨ha.size,λ u v hv=>?_,ha.defers⟩;rw[j9]at hv;by_cases e:t=u
 ·subst e;rw[No Y]at hv;cases hv;exact ha.slot _ _ h
 ·rw[M2 e]at hv;exact ha.slot _ _ hv
theorem RT.Gt{b:Bool}(t:Nat)(h:look L t=some (.bool b))(hb:b=true)(hk:RT P n ops l K ((t,.bool true)::L) w):RT P n ops l K L w:=RT.G t h hb hk
theorem RT.Gf{b:Bool}(t:Nat)(h:look L t=some (.bool b))(hb:b=false)(hk:RT P n ops l K ((t,.bool false)::L) w):RT P n ops l K L w:=RT.G t h hb hk
theorem RT.B{p:Prop}{dp:Decidable p}(t:Nat)(h:look L t=some (.bool (@decide p dp)))(ht:p->RT P n ops l K ((t,.bool true)::L) w)(hf:¬ p->RT P n ops l K ((t,.bool false)::L) w):RT P n ops l K L w:=by
 by_cases hp:p
 ·exact RT.G t h (Rr hp) (ht hp)
 ·exact RT.G t h (AT hp) (hf hp)
def RT.M{p:Prop}{dp:Decidable p}{M:aA}{t:Nat}{b:Bool}(h:(qp P n ops l.length l L [],look L' t)=(some (L',[],C),some (.bool b)))(hb:b= @decide p dp)
  (hw:M.map (λ q=>look L' q.1)=M.map (λ q=>some q.2):=by exact Y) (hC:All C:=by(repeat (first|exact trivial|refine⟨by first|rfl|omega|(simp only[IntKind.bits];omega),?_⟩))):RT P n ops l (λ L' w'=>w'=w/\look L' t=some (.bool (@decide p dp))/\Weak M L') L w:=by
 simp only[RW]at h;exact(iE _ h.1 hC (λ _=>.nil ⟨Y,hb▸h.2,wk hw⟩)).2
variable {cs:List Chunk} {w0:World}
theorem RT.ld{b o:Nat}{U:TypeId}{cells:List Value}{x:Operand}{T:TypeId}{v:Value}(k:Nat)(hs:Sat w0 cs w)(i:Nat)
  (h:(eu P n ops k l L,aJ L' x,cs[i]?,cells[o]?,(Tb.sc P).any (Nat.beq T))=(some (⟨d,.load T x,ty,pos,af,g⟩,r,L',C),some (.pointer (some ⟨b,o,none⟩)),some (aq b U cells),some v,true))
  (hk:RT P n ops r K (putK d v L') w) (hC:All C:=by(repeat (first|exact trivial|refine⟨by first|rfl|omega|(simp only[IntKind.bits];omega),?_⟩))):RT P n ops l K L w:=by
 simp only[RW]at h;obtain⟨h1,h2,h3,h4,h5⟩:=h;refine cF h1 hC λ hd hg=>RT.ev hg hd (.load ?_ h2 (hs.cell h3 h4)) hk;obtain⟨t,ht,he⟩:=V2.1 h5;have:=SL he;subst this;exact Sy.1 (Tb.sok (P:=P)) _ ht
theorem RT.lo{b m:Nat}{U:TypeId}{cells:List Value}{x:Operand}{T:TypeId}(k:Nat)(hs:Sat w0 cs w)(i:Nat)
  (h:(eu P n ops k l L,aJ L' x,cs[i]?,dO (Tb.ag P) T,cells.length)=(some (⟨d,.load T x,ty,pos,af,g⟩,r,L',C),some (.pointer (some ⟨b,0,none⟩)),some (aq b U cells),some m,m))
  (hk:RT P n ops r K (putK d (.agg cells.toArray) L') w) (hC:All C:=by(repeat (first|exact trivial|refine⟨by first|rfl|omega|(simp only[IntKind.bits];omega),?_⟩))):RT P n ops l K L w:=by
 simp only[RW]at h;obtain⟨h1,h2,h3,h4,h5⟩:=h;exact cF h1 hC λ hd hg=>RT.ev hg hd (.fY (Sy.1 (Tb.gok (P:=P)) _ (eb h4)) h2 hs h3 h5) hk
theorem RT.ln{α:Type}{E:Enc α}{ll:List α}{x:Operand}{v:Value}{t:TypeId}{q:Nat×Nat×Value×Nat}(k:Nat)(hr:RdL w v E ll)
  (h:(eu P n ops k l L,aJ L' x,dO (Tb.sl P) t)=(some (⟨d,.call ⟨.builtin .len,#[x],#[t]⟩,ty,pos,af,g⟩,r,L',C),some v,some q))
  (hk:RT P n ops r K (putK d (.int .i64 (ll.length:Int)) L') w) (hC:All C:=by(repeat (first|exact trivial|refine⟨by first|rfl|omega|(simp only[IntKind.bits];omega),?_⟩))):RT P n ops l K L w:=by
 simp only[RW]at h;obtain⟨h1,h2,h3⟩:=h;exact cF h1 hC λ hd hg=>RT.ev hg hd (.M5 (oV (Tb.lok (P:=P)) (eb h3)).und h2 hr) hk
theorem RT.c{f:FuncId}{vs:List Value}{Φ:Value->World->Prop}[he:Ent P f]{xs:List Operand}{ats:Array TypeId}(k:Nat)(hc:CallsV P f vs w Φ)
  (h:(eu P n ops k l L,oY L' xs)=(some (⟨d,.call ⟨.value (.func f),xs.toArray,ats⟩,ty,pos,af,g⟩,r,L',C),some vs))
  (hk:∀ v w',Φ v w'->RT P n ops r K (putK d v L') w') (hC:All C:=by(repeat (first|exact trivial|refine⟨by first|rfl|omega|(simp only[IntKind.bits];omega),?_⟩))):RT P n ops l K L w:=by
 simp only[RW]at h;obtain⟨h1,h2⟩:=h;exact cF h1 hC λ hd hg=>RT.Jq hg hd (.call he.h h2 (hc.mono hk))
theorem RT.a{o:Oper}{v:Value}(k:Nat)(h:eu P n ops k l L=some (o,r,L',C))(he:Ev P n L' w o v)(hk:RT P n ops r K (putK o.dst v L') w)(hC:All C:=by(repeat (first|exact trivial|refine⟨by first|rfl|omega|(simp only[IntKind.bits];omega),?_⟩))):RT P n ops l K L w:=
 cF h hC λ hd hg=>RT.ev hg hd he hk
theorem RT.b{o:Oper}(k:Nat)(h:eu P n ops k l L=some (o,r,L',C))(he:OpE P n L' w o λ v w'=>RT P n ops r K (putK o.dst v L') w')(hC:All C:=by(repeat (first|exact trivial|refine⟨by first|rfl|omega|(simp only[IntKind.bits];omega),?_⟩))):RT P n ops l K L w:=
 cF h hC λ hd hg=>RT.Jq hg hd he
end
section
variable {N R:aA->World->Prop} {X G:List (Nat×(aA->World->Prop))} {L':aA} {C:List Prop} {y:Code} {id:Nat} {l:List Oper}
theorem CW.Z(h:qp P n l l.length l L []=some (L',[],C))(hk:CW P n y ⟨N,R,X,G⟩ L' w)(hC:All C:=by(repeat (first|exact trivial|refine⟨by first|rfl|omega|(simp only[IntKind.bits];omega),?_⟩))):CW P n (.seq (.region id l.toArray false) y) ⟨N,R,X,G⟩ L w:=.seq<|.region<|(iE _ h hC (λ _=>.nil hk)).2
def CW.U(h:qp P n l l.length l L []=some (L',[],C))(hk:N L' w)(hC:All C:=by(repeat (first|exact trivial|refine⟨by first|rfl|omega|(simp only[IntKind.bits];omega),?_⟩))):CW P n (.region id l.toArray false) ⟨N,R,X,G⟩ L w:=.region<|(iE _ h hC (λ _=>.nil hk)).2
def CW.h(h:RT P n l l (λ L w=>CW P n y ⟨N,R,X,G⟩ L w) L w):CW P n (.seq (.region id l.toArray false) y) ⟨N,R,X,G⟩ L w:=.seq<|.region h
end
end
section
variable {P:Program} [Tb P] {n:Nat} {L:aA} {w:World} {S:World->Prop} {SS:List (World->Prop)} {K:aA->World->Prop} {ops:List Oper}
def lE{o:Oper}{a:Act}(ha:Fits n L a){b:Bool}(h:gC ops L o.guard=some b):Region.wanted o (yielded ops.toArray a.tmps)=b:=by
 cases hg:o.guard with
 |none=>rw[hg]at h;cases h;simp[Region.wanted,hg]
 |some q=>
  obtain⟨j,c⟩:=q;rw[hg]at h;simp only[gC]at h;split at h
  ·cases h
  ·rename_i d hd
   split at h<;>first|(cases h;done)|skip
   ·rename_i hl;simp only[Region.wanted,hg,ha.yielded hd hl];cases c<;>cases h<;>rfl
   ·rename_i hl;simp only[Region.wanted,hg,ha.yielded hd hl];cases c<;>cases h<;>rfl
   ·rename_i hl;cases h;simp only[Region.wanted,hg,ha.Al hd hl];rfl
theorem RP.gF{i:Nat}{o:Oper}{p:Plan}(ho:ops[i]? =some o)(h:gC ops L o.guard=some false)(hd:bV n o.dst=true)(hS:S w)(hk:RP P n ops (S::SS) p K (putK o.dst undef L) w):RP P n ops (S::SS) (.free i p) K L w:=λ a ha=>
 ⟨o,undef,ho,.inr ⟨lE ha h,Y⟩,hS,hk _ (ha.putK hd)⟩
theorem RP.gT{i:Nat}{o:Oper}{v:Value}{p:Plan}(ho:ops[i]? =some o)(h:gC ops L o.guard=some true)(hd:bV n o.dst=true)(he:∀ w',S w'->Ev P n L w' o v)(hS:S w)(hk:RP P n ops (S::SS) p K (putK o.dst v L) w):RP P n ops (S::SS) (.free i p) K L w:=λ a ha=>
 ⟨o,v,ho,.inl ⟨lE ha h,λ w' hw'=>he w' hw' a ha⟩,hS,hk _ (ha.putK hd)⟩
def RP.fF{i:Nat}{o:Oper}{p:Plan}(ho:ops[i]? =some o)(h:gC ops L o.guard=some false)(hd:bV n o.dst=true)(hS:S w)(hk:RP P n ops (S::SS) p K (putK o.dst undef L) w):RP P n ops (S::SS) (.one i p) K L w:=λ a ha=>by
 have ho':ops.toArray[i]? =some o:=by simpa using ho
 show wpOp P ops.toArray (RQ n K) i _ a w;unfold wpOp;simp only[ho',lE ha h];exact⟨S,λ _ h=>h,hS,hk _ (ha.putK hd)⟩
def RP.fT{i:Nat}{o:Oper}{p:Plan}(ho:ops[i]? =some o)(h:gC ops L o.guard=some true)(hd:bV n o.dst=true)(he:OpE P n L w o λ v w'=>S w'/\RP P n ops (S::SS) p K (putK o.dst v L) w'):RP P n ops (S::SS) (.one i p) K L w:=λ a ha=>by
 have ho':ops.toArray[i]? =some o:=by simpa using ho
 show wpOp P ops.toArray (RQ n K) i _ a w;unfold wpOp;simp only[ho',lE ha h,TJ];exact .inl ((OpE.same (R:=λ T v w'=>RP P n ops (T::SS) p K (putK o.dst v L) w') he) a ha _ _ λ v w' ⟨T,h1,h2,h3⟩=>⟨T,h1,h2,h3 _ (ha.putK hd)⟩)
def mz(P:Program)[Tb P](n:Nat)(ops:List Oper):Nat->Plan->aA->List Prop->Option (aA×Plan×List Prop)
 |0,p,L,C=>some (L,p,C)
 |k+1,.free i p,L,C=>(match ops[i]? with
  |some ⟨d,op,_,_,_,g⟩=>cond (bV n d) (match gC ops L g with
   |some true=>(match EK P L op with
    |some (v,c)=>mz P n ops k p (putK d v L) (c++C)
    |none=>none)
   |some false=>mz P n ops k p (putK d undef L) C
   |none=>none) none
  |none=>none)
 |k+1,.one i p,L,C=>(match ops[i]? with
  |some ⟨d,op,_,_,_,g⟩=>cond (bV n d) (match gC ops L g with
   |some true=>(match EK P L op with
    |some (v,c)=>mz P n ops k p (putK d v L) (c++C)
    |none=>none)
   |some false=>mz P n ops k p (putK d undef L) C
   |none=>none) none
  |none=>none)
 |_+1,_,_,_=>none
def gx{q:Plan}(hS:S w):∀ (k:Nat) {p:Plan} {L L':aA} {C C':List Prop},mz P n ops k p L C=some (L',q,C')->All C'->(All C->RP P n ops (S::SS) q K L' w)->All C/\RP P n ops (S::SS) p K L w
 |0,p,L,L',C,C',h,hC,hk=>by simp only[mz,Th,RW]at h;obtain⟨rfl,rfl,rfl⟩:=h;exact⟨hC,hk hC⟩
 |k+1,.free i p,L,L',C,C',h,hC,hk=>by
  simp only[mz]at h;split at h
  ·rename_i d op ty pos af g ho
   cases hb:bV n d with
   |false=>rw[hb]at h;cases h
   |true=>
    rw[hb]at h;simp only[Uk]at h;split at h
    ·rename_i hg
     split at h
     ·rename_i v c hv
      have:=gx hS k h hC (λ hc=>hk (All.app hc).2);have h2:=All.app this.1;exact⟨h2.2,RP.gT ho hg hb (λ _ _=>Ev.C hv h2.1) hS this.2⟩
     ·cases h
    ·rename_i hg
     have:=gx hS k h hC hk;exact⟨this.1,RP.gF ho hg hb hS this.2⟩
    ·cases h
  ·cases h
 |k+1,.one i p,L,L',C,C',h,hC,hk=>by
  simp only[mz]at h;split at h
  ·rename_i d op ty pos af g ho
   cases hb:bV n d with
   |false=>rw[hb]at h;cases h
   |true=>
    rw[hb]at h;simp only[Uk]at h;split at h
    ·rename_i hg
     split at h
     ·rename_i v c hv
      have:=gx hS k h hC (λ hc=>hk (All.app hc).2);have h2:=All.app this.1;exact⟨h2.2,RP.fT ho hg hb (OpE.ev (Ev.C hv h2.1) ⟨hS,this.2⟩)⟩
     ·cases h
    ·rename_i hg
     have:=gx hS k h hC hk;exact⟨this.1,RP.fF ho hg hb hS this.2⟩
    ·cases h
  ·cases h
 |k+1,.fin,L,L',C,C',h,hC,hk=>by simp[mz]at h
 |k+1,.loose _ _,L,L',C,C',h,hC,hk=>by simp[mz]at h
 |k+1,.bar _ _,L,L',C,C',h,hC,hk=>by simp[mz]at h
 |k+1,.two _ _ _ _,L,L',C,C',h,hC,hk=>by simp[mz]at h
def iF(P:Program)[Tb P](n:Nat)(ops:List Oper)(k:Nat)(p:Plan)(L:aA):Option (Bool×Oper×Plan×aA×List Prop):=match mz P n ops k p L []with
 |some (L',.free i q,C)=>(match ops[i]? with
  |some o=>cond (bV n o.dst) (match gC ops L' o.guard with
   |some true=>some (true,o,q,L',C)
   |_=>none) none
  |none=>none)
 |some (L',.one i q,C)=>(match ops[i]? with
  |some o=>cond (bV n o.dst) (match gC ops L' o.guard with
   |some true=>some (false,o,q,L',C)
   |_=>none) none
  |none=>none)
 |_=>none
variable {p q:Plan} {L':aA} {C:List Prop} {o:Oper}
def fL{k:Nat}{v:Value}{bb:Bool}(hS:S w)(h:iF P n ops k p L=some (bb,o,q,L',C))(hC:All C)(he:∀ w',S w'->Ev P n L' w' o v)(hk:RP P n ops (S::SS) q K (putK o.dst v L') w):RP P n ops (S::SS) p K L w:=by
 unfold iF at h;split at h
 ·rename_i L1 i q1 C1 hr
  split at h
  ·rename_i o1 ho
   cases hb:bV n o1.dst with
   |false=>rw[hb]at h;cases h
   |true=>
    rw[hb]at h;simp only[Uk]at h;split at h
    ·rename_i hg
     cases h;exact(gx hS k hr hC (λ _=>RP.gT ho hg hb he hS hk)).2
    ·cases h
  ·cases h
 ·rename_i L1 i q1 C1 hr
  split at h
  ·rename_i o1 ho
   cases hb:bV n o1.dst with
   |false=>rw[hb]at h;cases h
   |true=>
    rw[hb]at h;simp only[Uk]at h;split at h
    ·rename_i hg
     cases h;exact(gx hS k hr hC (λ _=>RP.fT ho hg hb (OpE.ev (he w hS) ⟨hS,hk⟩))).2
    ·cases h
  ·cases h
 ·cases h
def uU{k:Nat}(hS:S w)(h:iF P n ops k p L=some (false,o,q,L',C))(hC:All C)(he:OpE P n L' w o λ v w'=>S w'/\RP P n ops (S::SS) q K (putK o.dst v L') w'):RP P n ops (S::SS) p K L w:=by
 unfold iF at h;split at h
 ·split at h
  ·rename_i o1 ho
   cases hb:bV n o1.dst with
   |false=>rw[hb]at h;cases h
   |true=>
    rw[hb]at h;simp only[Uk]at h;split at h<;>cases h
  ·cases h
 ·rename_i L1 i q1 C1 hr
  split at h
  ·rename_i o1 ho
   cases hb:bV n o1.dst with
   |false=>rw[hb]at h;cases h
   |true=>
    rw[hb]at h;simp only[Uk]at h;split at h
    ·rename_i hg
     cases h;exact(gx hS k hr hC (λ _=>RP.fT ho hg hb he)).2
    ·cases h
  ·cases h
 ·cases h
theorem RP.z(k:Nat)(hS:S w)(h:mz P n ops k p L []=some (L',q,C))(hk:RP P n ops (S::SS) q K L' w)(hC:All C:=by(repeat (first|exact trivial|refine⟨by first|rfl|omega|(simp only[IntKind.bits];omega),?_⟩))):RP P n ops (S::SS) p K L w:=(gx hS k h hC (λ _=>hk)).2
theorem RP.Z(hS:S w)(h:mz P n ops p.depth p L []=some (L',.fin,C))(hk:K L' w)(hC:All C:=by(repeat (first|exact trivial|refine⟨by first|rfl|omega|(simp only[IntKind.bits];omega),?_⟩))):RP P n ops (S::SS) p K L w:=(gx hS _ h hC (λ _=>.fin hk)).2
theorem RP.G{b c:Bool}(t:Nat)(h:look L t=some (.bool b))(hb:b=c)(hk:RP P n ops (S::SS) p K ((t,.bool c)::L) w):RP P n ops (S::SS) p K L w:=by
 subst hb;intro a ha;refine hk a ⟨ha.size,λ u v hv=>?_,ha.defers⟩;rw[j9]at hv;by_cases e:t=u
 ·subst e;rw[No Y]at hv;cases hv;exact ha.slot _ _ h
 ·rw[M2 e]at hv;exact ha.slot _ _ hv
theorem RP.Gt{b:Bool}(t:Nat)(h:look L t=some (.bool b))(hb:b=true)(hk:RP P n ops (S::SS) p K ((t,.bool true)::L) w):RP P n ops (S::SS) p K L w:=RP.G t h hb hk
theorem RP.Gf{b:Bool}(t:Nat)(h:look L t=some (.bool b))(hb:b=false)(hk:RP P n ops (S::SS) p K ((t,.bool false)::L) w):RP P n ops (S::SS) p K L w:=RP.G t h hb hk
theorem RP.B{φ:Prop}{dp:Decidable φ}(t:Nat)(h:look L t=some (.bool (@decide φ dp)))(ht:φ->RP P n ops (S::SS) p K ((t,.bool true)::L) w)(hf:¬ φ->RP P n ops (S::SS) p K ((t,.bool false)::L) w):RP P n ops (S::SS) p K L w:=by
 by_cases hp:φ
 ·exact RP.G t h (Rr hp) (ht hp)
 ·exact RP.G t h (AT hp) (hf hp)
variable {cs:List Chunk} {w0:World} {bb:Bool} {d:Option Nat} {ty:TypeId} {pos:String} {af:Array Edge} {g:Option (Nat×Bool)}
theorem RP.ld{b o:Nat}{U:TypeId}{cells:List Value}{x:Operand}{T:TypeId}{v:Value}(k:Nat)(hS:Sat w0 cs w)(i:Nat)
  (h:(iF P n ops k p L,aJ L' x,cs[i]?,cells[o]?,(Tb.sc P).any (Nat.beq T))=(some (bb,⟨d,.load T x,ty,pos,af,g⟩,q,L',C),some (.pointer (some ⟨b,o,none⟩)),some (aq b U cells),some v,true))
  (hk:RP P n ops ((λ w'=>Sat w0 cs w')::SS) q K (putK d v L') w) (hC:All C:=by(repeat (first|exact trivial|refine⟨by first|rfl|omega|(simp only[IntKind.bits];omega),?_⟩))):RP P n ops ((λ w'=>Sat w0 cs w')::SS) p K L w:=by
 simp only[RW]at h;obtain⟨h1,h2,h3,h4,h5⟩:=h;refine fL (S:=λ w'=>Sat w0 cs w') hS h1 hC (λ w' hs=>.load ?_ h2 (Sat.cell hs h3 h4)) hk;obtain⟨t,ht,he⟩:=V2.1 h5;have:=SL he;subst this;exact Sy.1 (Tb.sok (P:=P)) _ ht
theorem RP.c{f:FuncId}{vs:List Value}{Φ:Value->World->Prop}[he:Ent P f]{xs:List Operand}{ats:Array TypeId}(k:Nat)(hS:S w)(hc:CallsV P f vs w Φ)
  (h:(iF P n ops k p L,oY L' xs)=(some (false,⟨d,.call ⟨.value (.func f),xs.toArray,ats⟩,ty,pos,af,g⟩,q,L',C),some vs))
  (hk:∀ v w',Φ v w'->S w'/\RP P n ops (S::SS) q K (putK d v L') w') (hC:All C:=by(repeat (first|exact trivial|refine⟨by first|rfl|omega|(simp only[IntKind.bits];omega),?_⟩))):RP P n ops (S::SS) p K L w:=by
 simp only[RW]at h;obtain⟨h1,h2⟩:=h;exact uU hS h1 hC (.call he.h h2 (hc.mono hk))
theorem RP.a{v:Value}(k:Nat)(hS:S w)(h:iF P n ops k p L=some (bb,o,q,L',C))(he:∀ w',S w'->Ev P n L' w' o v)(hk:RP P n ops (S::SS) q K (putK o.dst v L') w)(hC:All C:=by(repeat (first|exact trivial|refine⟨by first|rfl|omega|(simp only[IntKind.bits];omega),?_⟩))):RP P n ops (S::SS) p K L w:=fL hS h hC he hk
theorem RP.b(k:Nat)(hS:S w)(h:iF P n ops k p L=some (false,o,q,L',C))(he:OpE P n L' w o λ v w'=>S w'/\RP P n ops (S::SS) q K (putK o.dst v L') w')(hC:All C:=by(repeat (first|exact trivial|refine⟨by first|rfl|omega|(simp only[IntKind.bits];omega),?_⟩))):RP P n ops (S::SS) p K L w:=uU hS h hC he
end
abbrev Sat.L{w0 w:World}{cs:List Chunk}(_:Sat w0 cs w):List Chunk:=cs
def Ng:List Chunk->List (Nat×Chunk)->List Chunk
 |cs,[]=>cs
 |cs,(i,c)::r=>Ng (cs.set i c) r
abbrev Sat.U{w0 w:World}{cs:List Chunk}(_:Sat w0 cs w)(u:List (Nat×Chunk)):List Chunk:=Ng cs u
abbrev Sat.V{w0 w:World}{A cs:List Chunk}(_:Sat w0 (A++cs) w)(u:List (Nat×Chunk)):List Chunk:=Ng A u
section
variable {P:Program} {n:Nat} {N R:aA->World->Prop} {X G:List (Nat×(aA->World->Prop))} {L L0:aA} {w:World}
def CW.lp{c:Code}{α:Type}(ts:List Nat)(h:nF ts L=some L0)(K:α->aA)(I:α->World->Prop)(μ:α->Nat)(x₀:α)(h0:Weak (K x₀++L0) L)(hI:I x₀ w)
  (round:∀ x w,I x w->CW P n c ⟨λ L' w'=>∃ x',Weak (K x'++L0) L'/\I x' w'/\μ x'<μ x,R,X,G⟩ (K x++L0) w):CW P n (.loop c) ⟨N,R,X,G⟩ L w:=CW.loop (λ x=>K x++L0) I μ x₀ h0 hI round
def CW.jn{x y:Code}(ts:List Nat)(h:nF ts L=some L0)(M:aA->aA->World->Prop)(h1:CW P n x ⟨M L0,R,X,G⟩ L w)(h2:∀ L' w',M L0 L' w'->CW P n y ⟨N,R,X,G⟩ L' w'):CW P n (.seq x y) ⟨N,R,X,G⟩ L w:=CW.BW (M L0) h1 h2
def CW.md{c:Code}(ts:List Nat)(h:nF ts L=some L0)(M:aA->aA->World->Prop)(h1:CW P n c ⟨M L0,R,X,G⟩ L w)(h2:∀ L' w',M L0 L' w'->N L' w'):CW P n c ⟨N,R,X,G⟩ L w:=CW.vY (M L0) h1 h2
end
section
variable {P:Program} [Tb P] {n:Nat} {L L':aA} {w w0:World} {d:Option Nat} {ty:TypeId} {pos:String} {af:Array Edge} {g:Option (Nat×Bool)} {ops l r:List Oper} {K:aA->World->Prop} {C:List Prop} {cs:List Chunk}
variable {α:Type} {E:Enc α} {ll:List α} {v u:Value} {x i:Operand} {j:Nat} {a:α} {t e b:Nat} {z:Value} {T:TypeId} {kk:IntKind}
def Ko(h:(Tb.sc P).any (Nat.beq T)=true):dI P T=true:=by
 obtain⟨t,ht,he⟩:=V2.1 h;have:=SL he;subst this;exact Sy.1 (Tb.sok (P:=P)) _ ht
def Nh{m:Nat}(h:dO (Tb.ag P) T=some m):dS P T m=true:=Sy.1 (Tb.gok (P:=P)) _ (eb h)
def GW{s:Nat}(h:dO (Tb.sl P) t=some (e,s,z,b)):SlTy P t e s z b:=oV (Tb.lok (P:=P)) (eb h)
theorem RT.ix(k:Nat)(hr:RdL w v E ll)(h:(eu P n ops k l L,aJ L' x,nV L' i,dO (Tb.sl P) t)=(some (⟨d,.indexAddr t x i,ty,pos,af,g⟩,r,L',C),some v,some (kk,j),some (e,E.s,z,b)))
  (hk:RT P n ops r K (putK d (bN v (j*E.s)) L') w) (hj:j<ll.length:=by omega) (hC:All C:=by(repeat (first|exact trivial|refine⟨by first|rfl|omega|(simp only[IntKind.bits];omega),?_⟩))):RT P n ops l K L w:=by
 simp only[RW]at h;obtain⟨h1,h2,h3,h4⟩:=h;exact cF h1 hC λ hd hg=>RT.ev hg hd (.jz (GW h4) h2 (yE h3) hr hj) hk
theorem RT.le(k:Nat)(hr:RdL w v E ll)(ha:ll[j]? =some a)(h:(eu P n ops k l L,aJ L' x,(Tb.sc P).any (Nat.beq T),(E.enc a)[0]?,Nat.blt 0 E.s)=(some (⟨d,.load T x,ty,pos,af,g⟩,r,L',C),some (bN v (j*E.s)),true,some u,true))
  (hk:RT P n ops r K (putK d u L') w) (hC:All C:=by(repeat (first|exact trivial|refine⟨by first|rfl|omega|(simp only[IntKind.bits];omega),?_⟩))):RT P n ops l K L w:=by
 simp only[RW]at h;obtain⟨h1,h2,h3,h4,h5⟩:=h;exact cF h1 hC λ hd hg=>RT.ev hg hd (.Qr (Ko h3) h2 hr ha (Sh h5) h4) hk
theorem RT.lf{off:Nat}(k:Nat)(hr:RdL w v E ll)(ha:ll[j]? =some a)(h:(eu P n ops k l L,aJ L' x,(Tb.sc P).any (Nat.beq T),(E.enc a)[off]?,Nat.blt off E.s)=(some (⟨d,.load T x,ty,pos,af,g⟩,r,L',C),some (bN v (j*E.s+off)),true,some u,true))
  (hk:RT P n ops r K (putK d u L') w) (hC:All C:=by(repeat (first|exact trivial|refine⟨by first|rfl|omega|(simp only[IntKind.bits];omega),?_⟩))):RT P n ops l K L w:=by
 simp only[RW]at h;obtain⟨h1,h2,h3,h4,h5⟩:=h;exact cF h1 hC λ hd hg=>RT.ev hg hd (.Qf (Ko h3) h2 hr ha (Sh h5) h4) hk
theorem RT.lg(k:Nat)(hr:RdL w v E ll)(ha:ll[j]? =some a)(h:(eu P n ops k l L,aJ L' x,dO (Tb.ag P) T,Nat.blt 0 E.s)=(some (⟨d,.load T x,ty,pos,af,g⟩,r,L',C),some (bN v (j*E.s)),some E.s,true))
  (hk:RT P n ops r K (putK d (E.ag a) L') w) (hC:All C:=by(repeat (first|exact trivial|refine⟨by first|rfl|omega|(simp only[IntKind.bits];omega),?_⟩))):RT P n ops l K L w:=by
 simp only[RW]at h;obtain⟨h1,h2,h3,h5⟩:=h;exact cF h1 hC λ hd hg=>RT.ev hg hd (.MQ (Nh h3) h2 hr ha (Sh h5)) hk
theorem RT.fl{f off:Nat}{fs:List Nat}(k:Nat)(hr:RdL w v E ll)(h:(eu P n ops k l L,aJ L' x,dO (Tb.fl P) T,fs[f]?,Nat.blt 0 E.s)=(some (⟨d,.fieldAddr T x f,ty,pos,af,g⟩,r,L',C),some (bN v (j*E.s)),some fs,some off,true))
  (hk:RT P n ops r K (putK d (bN v (j*E.s+off)) L') w) (hj:j<ll.length:=by omega) (hC:All C:=by(repeat (first|exact trivial|refine⟨by first|rfl|omega|(simp only[IntKind.bits];omega),?_⟩))):RT P n ops l K L w:=by
 simp only[RW]at h;obtain⟨h1,h2,h3,h4,h5⟩:=h;exact cF h1 hC λ hd hg=>RT.ev hg hd (.Qc (Tb.Qu h3 h4) h2 hr hj (Sh h5)) hk
def RT.bx(k:Nat)(hs:Sat w0 cs w)(h:(eu P n ops k l L,aJ L' x)=(some (⟨d,.box T x,ty,pos,af,g⟩,r,L',C),some v))
  (hk:∀ b w',Sat w0 (cs++[aq b T v.cells.toList]) w'->Chg [] w w'->w.heap.size<=b->RT P n ops r K (putK d (.pointer (some ⟨b,0,none⟩)) L') w') (hC:All C:=by(repeat (first|exact trivial|refine⟨by first|rfl|omega|(simp only[IntKind.bits];omega),?_⟩))):RT P n ops l K L w:=by
 simp only[RW]at h;obtain⟨h1,h2⟩:=h;exact cF h1 hC λ hd hg=>RT.Jq hg hd (.box hs h2 hk)
def RT.al(k:Nat)(hs:Sat w0 cs w)(h:(eu P n ops k l L,dO (Tb.zr P) T)=(some (⟨d,.alloc T,ty,pos,af,g⟩,r,L',C),some z))
  (hk:∀ b w',Sat w0 (cs++[aq b T z.cells.toList]) w'->Chg [] w w'->w.heap.size<=b->RT P n ops r K (putK d (.pointer (some ⟨b,0,none⟩)) L') w') (hC:All C:=by(repeat (first|exact trivial|refine⟨by first|rfl|omega|(simp only[IntKind.bits];omega),?_⟩))):RT P n ops l K L w:=by
 simp only[RW]at h;obtain⟨h1,h2⟩:=h;exact cF h1 hC λ hd hg=>RT.Jq hg hd (.alloc hs (uQ (Tb.zok (P:=P)) (eb h2)) hk)
def oneOf(h:(Tb.sc P).any (Nat.beq T)=true):(P.info? T).map (·.size)=some 1:=by
 obtain⟨t,ht,he⟩:=V2.1 h;have:=SL he;subst this;exact EJ (Sy.1 (Tb.ook (P:=P)) _ ht)
variable {y:Operand} {U:TypeId} {cells vs:List Value} {u0:Value} {bb:Nat}
def RT.st(k:Nat)(hs:Sat w0 cs w)(i:Nat)(h:(eu P n ops k l L,aJ L' x,aJ L' y,cs[i]?,cells[j]?,(Tb.sc P).any (Nat.beq T))=(some (⟨d,.store T x y,ty,pos,af,g⟩,r,L',C),some (.pointer (some ⟨bb,j,none⟩)),some v,some (aq bb U cells),some u0,true))
  (hk:∀ w',Sat w0 (cs.set i (aq bb U (cells.set j v))) w'->Chg [bb] w w'->RT P n ops r K (putK d undef L') w') (h1:v.oneCell'=true:=by exact Y) (hC:All C:=by(repeat (first|exact trivial|refine⟨by first|rfl|omega|(simp only[IntKind.bits];omega),?_⟩))):RT P n ops l K L w:=by
 simp only[RW]at h;obtain⟨q1,q2,q3,q4,q5,q6⟩:=h;exact cF q1 hC λ hd hg=>RT.Jq hg hd (.aS (oneOf q6) hs q4 q2 q3 h1 q5 hk)
def RT.sa{m:Nat}(k:Nat)(hs:Sat w0 cs w)(i:Nat)(h:(eu P n ops k l L,aJ L' x,aJ L' y,cs[i]?,dO (Tb.ag P) T,vs.length,cells.length)=(some (⟨d,.store T x y,ty,pos,af,g⟩,r,L',C),some (.pointer (some ⟨bb,0,none⟩)),some (.agg vs.toArray),some (aq bb U cells),some m,m,m))
  (h1:∀ v∈vs,v.oneCell'=true) (hk:∀ w',Sat w0 (cs.set i (aq bb U vs)) w'->Chg [bb] w w'->RT P n ops r K (putK d undef L') w') (hC:All C:=by(repeat (first|exact trivial|refine⟨by first|rfl|omega|(simp only[IntKind.bits];omega),?_⟩))):RT P n ops l K L w:=by
 simp only[RW]at h;obtain⟨q1,q2,q3,q4,q5,q6,q7⟩:=h;exact cF q1 hC λ hd hg=>RT.Jq hg hd (.cC (q6▸Nh q5) hs q4 (q6.trans q7.symm) q2 q3 h1 hk)
def RT.ap{m:List α}{tx:TypeId}{q:Nat×Nat×Value×Nat}(k:Nat)(hs:Sat w0 cs w)(i:Nat)(hr:RdL w u E m)(h:(eu P n ops k l L,aJ L' x,aJ L' y,cs[i]?,dO (Tb.sl P) t,dO (Tb.sl P) tx)=(some (⟨d,.call ⟨.builtin .append,#[x,y],#[t,tx]⟩,ty,pos,af,g⟩,r,L',C),some v,some u,some (cL v e E ll),some (e,E.s,z,b),some q))
  (hk:∀ v' w',Sat w0 (cs.set i (cL v' e E (ll++m))) w'->Chg (bT v) w w'->RT P n ops r K (putK d v' L') w') (h1:ll.length+m.length<=9223372036854775807:=by first|omega|(simp;omega)) (h2:(ll.length+m.length)*b<=140737488355328:=by first|omega|(simp;omega)) (hC:All C:=by(repeat (first|exact trivial|refine⟨by first|rfl|omega|(simp only[IntKind.bits];omega),?_⟩))):RT P n ops l K L w:=by
 simp only[RW]at h;obtain⟨q1,q2,q3,q4,q5,q6⟩:=h;exact cF q1 hC λ hd hg=>RT.Jq hg hd (.aD i (GW q5) hs q4 q2 q3 (GW (e:=q.1) (s:=q.2.1) (z:=q.2.2.1) (b:=q.2.2.2) q6).und hr h1 h2 hk)
end
section
variable {P:Program} [Tb P] {n:Nat} {L L':aA} {w w0:World} {S:World->Prop} {SS:List (World->Prop)} {d:Option Nat} {ty:TypeId} {pos:String} {af:Array Edge} {g:Option (Nat×Bool)} {ops:List Oper} {p q:Plan} {K:aA->World->Prop} {C:List Prop} {bb:Bool}
variable {α:Type} {E:Enc α} {ll:List α} {v u:Value} {x i:Operand} {j:Nat} {a:α} {t e b:Nat} {z:Value} {T:TypeId} {kk:IntKind}
theorem RP.ln{f:Nat×Nat×Value×Nat}(k:Nat)(hS:S w)(hr:∀ {w'},S w'->RdL w' v E ll)(h:(iF P n ops k p L,aJ L' x,dO (Tb.sl P) t)=(some (bb,⟨d,.call ⟨.builtin .len,#[x],#[t]⟩,ty,pos,af,g⟩,q,L',C),some v,some f))
  (hk:RP P n ops (S::SS) q K (putK d (.int .i64 (ll.length:Int)) L') w) (hC:All C:=by(repeat (first|exact trivial|refine⟨by first|rfl|omega|(simp only[IntKind.bits];omega),?_⟩))):RP P n ops (S::SS) p K L w:=by
 simp only[RW]at h;obtain⟨h1,h2,h3⟩:=h;exact fL hS h1 hC (λ w' s=>.M5 (GW (e:=f.1) (s:=f.2.1) (z:=f.2.2.1) (b:=f.2.2.2) h3).und h2 (hr s)) hk
theorem RP.ix(k:Nat)(hS:S w)(hr:∀ {w'},S w'->RdL w' v E ll)(h:(iF P n ops k p L,aJ L' x,nV L' i,dO (Tb.sl P) t)=(some (bb,⟨d,.indexAddr t x i,ty,pos,af,g⟩,q,L',C),some v,some (kk,j),some (e,E.s,z,b)))
  (hk:RP P n ops (S::SS) q K (putK d (bN v (j*E.s)) L') w) (hj:j<ll.length:=by omega) (hC:All C:=by(repeat (first|exact trivial|refine⟨by first|rfl|omega|(simp only[IntKind.bits];omega),?_⟩))):RP P n ops (S::SS) p K L w:=by
 simp only[RW]at h;obtain⟨h1,h2,h3,h4⟩:=h;exact fL hS h1 hC (λ w' s=>.jz (GW h4) h2 (yE h3) (hr s) hj) hk
theorem RP.le(k:Nat)(hS:S w)(hr:∀ {w'},S w'->RdL w' v E ll)(ha:ll[j]? =some a)(h:(iF P n ops k p L,aJ L' x,(Tb.sc P).any (Nat.beq T),(E.enc a)[0]?,Nat.blt 0 E.s)=(some (bb,⟨d,.load T x,ty,pos,af,g⟩,q,L',C),some (bN v (j*E.s)),true,some u,true))
  (hk:RP P n ops (S::SS) q K (putK d u L') w) (hC:All C:=by(repeat (first|exact trivial|refine⟨by first|rfl|omega|(simp only[IntKind.bits];omega),?_⟩))):RP P n ops (S::SS) p K L w:=by
 simp only[RW]at h;obtain⟨h1,h2,h3,h4,h5⟩:=h;exact fL hS h1 hC (λ w' s=>.Qr (Ko h3) h2 (hr s) ha (Sh h5) h4) hk
theorem RP.lf{off:Nat}(k:Nat)(hS:S w)(hr:∀ {w'},S w'->RdL w' v E ll)(ha:ll[j]? =some a)(h:(iF P n ops k p L,aJ L' x,(Tb.sc P).any (Nat.beq T),(E.enc a)[off]?,Nat.blt off E.s)=(some (bb,⟨d,.load T x,ty,pos,af,g⟩,q,L',C),some (bN v (j*E.s+off)),true,some u,true))
  (hk:RP P n ops (S::SS) q K (putK d u L') w) (hC:All C:=by(repeat (first|exact trivial|refine⟨by first|rfl|omega|(simp only[IntKind.bits];omega),?_⟩))):RP P n ops (S::SS) p K L w:=by
 simp only[RW]at h;obtain⟨h1,h2,h3,h4,h5⟩:=h;exact fL hS h1 hC (λ w' s=>.Qf (Ko h3) h2 (hr s) ha (Sh h5) h4) hk
theorem RP.lg(k:Nat)(hS:S w)(hr:∀ {w'},S w'->RdL w' v E ll)(ha:ll[j]? =some a)(h:(iF P n ops k p L,aJ L' x,dO (Tb.ag P) T,Nat.blt 0 E.s)=(some (bb,⟨d,.load T x,ty,pos,af,g⟩,q,L',C),some (bN v (j*E.s)),some E.s,true))
  (hk:RP P n ops (S::SS) q K (putK d (E.ag a) L') w) (hC:All C:=by(repeat (first|exact trivial|refine⟨by first|rfl|omega|(simp only[IntKind.bits];omega),?_⟩))):RP P n ops (S::SS) p K L w:=by
 simp only[RW]at h;obtain⟨h1,h2,h3,h5⟩:=h;exact fL hS h1 hC (λ w' s=>.MQ (Nh h3) h2 (hr s) ha (Sh h5)) hk
theorem RP.fl{f off:Nat}{fs:List Nat}(k:Nat)(hS:S w)(hr:∀ {w'},S w'->RdL w' v E ll)(h:(iF P n ops k p L,aJ L' x,dO (Tb.fl P) T,fs[f]?,Nat.blt 0 E.s)=(some (bb,⟨d,.fieldAddr T x f,ty,pos,af,g⟩,q,L',C),some (bN v (j*E.s)),some fs,some off,true))
  (hk:RP P n ops (S::SS) q K (putK d (bN v (j*E.s+off)) L') w) (hj:j<ll.length:=by omega) (hC:All C:=by(repeat (first|exact trivial|refine⟨by first|rfl|omega|(simp only[IntKind.bits];omega),?_⟩))):RP P n ops (S::SS) p K L w:=by
 simp only[RW]at h;obtain⟨h1,h2,h3,h4,h5⟩:=h;exact fL hS h1 hC (λ w' s=>.Qc (Tb.Qu h3 h4) h2 (hr s) hj (Sh h5)) hk
end
section
variable {P:Program} {n:Nat} {fn:Func} {Φ:Value->World->Prop} {L:aA} {w:World}
def oW{t T b u s:Nat}{vs:List Value}{x y:Value}(hr:fn.results= #[.cell t T,.tmp u,.tmp s])(hv:look L t=some (.pointer (some ⟨b,0,none⟩)))(hx:look L u=some x)(hy:look L s=some y)(hT:dS P T vs.length=true)(hc:∀ j u,vs[j]? =some u->w.cell? ⟨b,j,none⟩=some u)
  (h:Φ (.tuple #[.agg vs.toArray,x,y]) w):aM P n fn Φ L w:=λ a ha=>by
 have h1:=ha.slot t _ hv;have h2:=ha.slot u _ hx;have h3:=ha.slot s _ hy;refine⟨_,?_,h⟩;simp[results,hr,SU,h1,h2,h3,asAddr,kK hT hc]
end
section
variable {P:Program} {n:Nat} {L:aA} {w w0:World} {cs:List Chunk} {K:Value->World->Prop} {d:Option Nat} {ty:TypeId} {pos:String} {af:Array Edge} {g:Option (Nat×Bool)}
structure VV where
 a:Value
 b:Value
 ha:a.oneCell'=true
 hb:b.oneCell'=true
def gl:Enc VV:=⟨2,λ x=>[x.a,x.b],λ _=>Y,λ x u h=>by
 simp only[Rx,RF,Sa]at h;rcases h with rfl|rfl
 ·exact x.ha
 ·exact x.hb⟩
end
section
variable {P:Program} {n:Nat} {fn:Func} {Φ:Value->World->Prop} {L:aA} {w:World}
end
