/-
 KM:full slices and appends to them,arrays as slices,array literals,results that lie in memory,bools compared,complements. Our own text;it names no program.
-/
import Derived.Test.YthffkcnbdehceaaGreatKp
import Derived.Laws.BytesString
import Derived.Laws.Strings
import Derived.Laws.Cover1
import Derived.Test.YthffkcnbdehceaaGreatM13
import Derived.MapKept
import Derived.Maps.RangeRun
import Derived.RangeFuncLeaves
import Derived.RangeFuncCalls
import Derived.RangeFuncSeq
import Derived.ScopeJumps
import Derived.Laws.Concat
open Go.Proofs.YthffkcnbdehceaaGreat
open List
set_option linter.unusedVariables false
set_option linter.unusedSimpArgs false
set_option linter.unusedSectionVars false
namespace Go.Kw
open Go.RowKit
section
variable {P:Program} {n:Nat} {L:aB} {w w0:World} {cs:List Chunk} {K:Value->World->Prop} {d:Option Nat} {ty:TypeId} {pos:String} {af:Array Edge} {g:Option (Nat×Bool)} {α:Type} {E:Enc α}
def qM (size:Nat):Value->Value
 | .slice a m _=> .slice (if m=0 then a else a.map (·.add (0*size))) m m
 |_=>undef
theorem Rd.full {v:Value} {m:Nat} {cells:List Value} (h:Rd w v m cells) (size:Nat):Rd w (qM size v) m cells:=by
 obtain ⟨a,cap,rfl,hn,hc⟩:=h
 refine ⟨_,m,rfl,KB _,λ j u hu=> ?_⟩
 obtain ⟨b,o,rfl,hw⟩:=hc j u hu
 split
 ·exact ⟨b,o,rfl,hw⟩
 ·exact ⟨b,o+0*size,by simp [Qu],by rw [Td,R8];exact hw⟩
def Km (v:Value):Prop:=∃ a m,v= .slice a m m
theorem RdL.full {v:Value} {l:List α} (h:RdL w v E l):RdL w (qM E.s v) E l/\Km (qM E.s v):=by
 refine ⟨Rd.full h E.s,?_⟩
 obtain ⟨a,cap,rfl,_⟩:=h
 exact ⟨_,_,rfl⟩
theorem Ev.DZ {x h m:Operand} {t e b:Nat} {z v:Value} {l:List α} {k k':IntKind} (hty:SlTy P t e E.s z b) (hx:aJ L x=some v) (hr:RdL w v E l) (hh:aJ L h=some (.int k (l.length:Int))) (hm:aJ L m=some (.int k' (l.length:Int))):
  Ev P n L w ⟨d,.slice t x none (some h) (some m),ty,pos,af,g⟩ (qM E.s v):= .of λ ρ hρ=>by
 obtain ⟨a,cap,rfl,hmc,hc⟩:=hr
 obtain ⟨inf,i1,i2,i3,i4⟩:=hty.info
 have h1:(0:Int)<=(l.length:Int)/\(l.length:Int)<=(cap:Int):=by omega
 have h2:(0:Int)<=(l.length:Int)/\(l.length:Int)<=(l.length:Int):=by omega
 have hsb:∀ w:World,(Instr.sliceBounds true l.length cap none (some (.int k (l.length:Int))) (some (.int k' (l.length:Int)))).run P w= .ok (0,l.length,l.length) w:=λ w=>by
  simp [Instr.sliceBounds,Instr.sliceBound,asIntOf,hmc,go_sem]
 simp only [execOp,hρ hx,hρ hh,hρ hm,Instr.sliceAt,Instr.slice,PS,PN hty.und,PL,SJ,Rh,hsb]
 simp [sizeOf,typeInfo,i1,i3,qM,go_sem]
theorem OpE.AQ {x y:Operand} {t tx e b e':Nat} {z v u:Value} {l m:List α} (hty:SlTy P t e E.s z b) (hs:Sat w0 cs w) (hx:aJ L x=some v) (hy:aJ L y=some u) (hv:RdL w v E l) (hF:Km v)
  (hk:P.underlying tx=some (.slice e')) (hr:RdL w u E m) (hm:0<m.length) (h63:l.length+m.length<=140737488355328) (hb:(l.length+m.length)*b<=140737488355328) (hc:∀ v' w',Sat w0 (cs++[cL v' e E (l++m)]) w'->Chg [] w w'->K v' w'):
  OpE P n L w ⟨d,.call ⟨.builtin .append,#[x,y],#[t,tx]⟩,ty,pos,af,g⟩ K:=by
 obtain ⟨inf,i1,i2,i3,i4⟩:=hty.info
 have hsrc:Src P E.s tx u m.length (E.all m) w:=Src.Hx rfl hk hr
 obtain ⟨a,cap,rfl,hn,hcell⟩:=id hv
 obtain ⟨a2,m2,hF⟩:=hF
 cases hF
 have hf:∀ w':World,w'.heap=w.heap->(Builtin.firstCells inf.size l.length (.slice a l.length l.length)).run P w'= .ok (E.all l).toArray w':=λ w' hw'=>by
  cases a with
  |none=>
   have hnil:E.all l=[]:=by
    cases hl:E.all l with
    |nil=>rfl
    |cons q r=>obtain ⟨bb,o,hb,_⟩:=hcell 0 q (by rw [hl];rfl);cases hb
   rw [hnil];exact run_firstCells_none w' inf.size _ _ _
  |some a=>
   refine run_firstCells_some w' inf.size l.length a _ _ (E.all l) (by rw [E.all_length,i3]) λ j u hu=> ?_
   obtain ⟨bb,o,hb,hw⟩:=hcell j u hu
   cases hb
   rw [Qu]
   simp only [World.cell?,hw'] at hw⊢;exact hw
 subst i4
 have hr2:=run_append_grow_src (P:=P) w t tx ty e inf z hty.und i1 i2 a l.length l.length (E.all l) (hf _ rfl) u m.length (E.all m) (by rw [i3];exact hsrc) (by omega) (by omega) (growslice_fits (by omega) hb)
 generalize hrow:(E.all l++E.all m).toArray++Builtin.zeroCells z.cells (grownCap w (l.length+m.length) l.length e-(l.length+m.length))=row at hr2
 have hC:Chg [] w (w.drew.alloc (.cells row e)):=⟨rfl,rfl,rfl,by simp,λ k hk _=>heap_alloc_old w.drew _ hk⟩
 refine .val (λ ρ hρ=> ?_) (hc (.slice (some ⟨w.heap.size,0,none⟩) (l.length+m.length) (grownCap w (l.length+m.length) l.length e)) _ (hs.add hC ?_ (by simp [cL,pj,bM])) hC)
 ·have h1:=hρ hx
  have h2:=hρ hy
  simp only [SA,BigFrame.builtin_append]
  simp only [RC,Qm,Sl,h1,h2,PS,hr2,PL,PZ]
 ·have hge:=TT w (l.length+m.length) l.length e
  have hcm:=grownCap_le_maxLen w (l.length+m.length) l.length e (by unfold maxLen;omega)
  refine ⟨by rw [E.all_length],.inr ⟨_,grownCap w (l.length+m.length) l.length e,_,?_,KD _,RE w.drew _,by rw [sp];exact hge,hcm,?_,?_⟩⟩
  ·rw [sp];rfl
  ·rw [<-hrow]
   simp only [Array.size_append,Sg,size_zeroCells,hty.zs,sp,E.all_length,<-Qx]
   congr 1;omega
  ·rw [E.all_append,<-hrow]
   simp only [Array.toList_append]
   have:(E.all l++E.all m).length=(l++m).length*E.s:=by rw [<-E.all_append,E.all_length]
   rw [<-this]
   exact TA
theorem Ev.Hv {x:Operand} {T m e s b:Nat} (hT:ArrTy P T m e s) (hm:0<m) (hx:aJ L x=some (.pointer (some ⟨b,0,none⟩))):Ev P n L w ⟨d,.slice T x none none none,ty,pos,af,g⟩ (.slice (some ⟨b,0,none⟩) m m):= .of λ ρ hρ=>by
 have hz:=hT.size
 cases hin:P.info? e with
 |none=>simp [hin] at hz
 |some inf=>
  simp [hin] at hz
  have hsb:=λ w=>fJ (P:=P) (isSl:=false) (len:=m) (cap:=m) (l:=0) (h:=m) (low:=none) (high:=none) rfl rfl (KD _) (KB _) w
  have h0:¬ m=0:=by omega
  simp only [execOp,hρ hx,Instr.sliceAt,PS,PN hT.und,PL,Instr.sureAddr,PZ,SJ,hsb]
  simp [sizeOf,typeInfo,hin,hz,h0,Qu,go_sem]
theorem Sat.OC (h:Sat w0 cs w) (i:Nat) {b T:Nat} {l:List α} (hi:cs[i]? =some (aq b T (E.all l))) {m:Nat} (hm:m=l.length):RdL w (.slice (some ⟨b,0,none⟩) m m) E l:=by
 subst hm
 refine ⟨some ⟨b,0,none⟩,l.length,rfl,KB _,λ j u hu=>⟨b,0,rfl,?_⟩⟩
 rw [Qa]
 exact h.cell hi hu
structure BuildAr (P:Program) (T m e:Nat) (zs:List Value):Prop where
 zero:(P.info? T).map (·.zero)=some (some (.agg zs.toArray))
 und:P.underlying T=some (.array m e)
 size:(P.info? e).map (·.size)=some 1
def setArr:List (Nat×Value)->List Value->Option (List Value)
 |[],zs=>some zs
 |(i,v)::r,zs=>cond (Nat.ble (i+1) zs.length) (setArr r (zs.set i v)) none
theorem qN:∀ (parts:List (Nat×Value)) (zs out:List Value),ou parts->setArr parts zs=some out->Instr.fill (λ i=>some (i*1,1)) zs.toArray parts=some out.toArray
 |[],zs,out,_,h=>by simp only [setArr,Rf] at h;subst h;rfl
 |(i,v)::r,zs,out,h1,h=>by
  have hvc:v.cells= #[v]:=by have:=h1.1;cases v<;>first|rfl|cases this
  unfold setArr at h
  cases hb:Nat.ble (i+1) zs.length with
  |false=>rw [hb] at h;cases h
  |true=>
   rw [hb] at h
   have hle:=Qe hb
   have ih:=qN r (zs.set i v) out h1.2 h
   simp only [Instr.fill,hvc,QJ]
   simp only [Sg,KP,KY,Qa,ne_eq,not_true,Te,Bool.false_or,TD]
   rw [M2 (by simp;omega)]
   simpa using ih
theorem Ev.HG {T m e:Nat} {zs out:List Value} {parts:List (Nat×Operand)} {vs:List (Nat×Value)} (hb:BuildAr P T m e zs) (hp:cW L parts=some vs) (h1:ou vs) (ho:setArr vs zs=some out):
  Ev P n L w ⟨d,.build T parts.toArray,ty,pos,af,g⟩ (.agg out.toArray):= .of λ ρ hρ=>by
 have he:∀ (parts:List (Nat×Operand)) (vs:List (Nat×Value)),cW L parts=some vs->parts.map (λ (i,x)=>(i,ρ x))=vs:=by
  intro parts
  induction parts with
  |nil=>intro vs h;simp [cW] at h;simp [h]
  |cons p r ih=>
   intro vs h
   obtain ⟨i,x⟩:=p
   simp only [cW,Rr,QI] at h
   obtain ⟨v,hv,us,hus,rfl⟩:=h
   simp [hρ hv,ih us hus]
 have hz:=hb.zero
 have hs:=hb.size
 have hfill:=qN vs zs out h1 ho
 cases hi:P.info? T with
 |none=>simp [hi] at hz
 |some inf=>
  cases hie:P.info? e with
  |none=>simp [hie] at hs
  |some infe=>
   simp [hi] at hz
   simp [hie] at hs
   have hrun:(Instr.build T vs.toArray).run P w= .ok (.agg out.toArray) w:=by
    simp only [Instr.build,zeroValue,typeInfo,PS]
    simp only [QJ] at hfill
    simp [hi,hz,PN hb.und,sizeOf,typeInfo,hie,hs,Value.cells,hfill]
   simp only [execOp]
   rw [show (parts.toArray.map λ (i,x)=>(i,ρ x))=vs.toArray by rw [RC,he parts vs hp]]
   simp only [PS,hrun,PL,PZ]
theorem jU {T b:Nat} {vs:List Value} (hT:dE P T vs.length=true) (h:∀ j u,vs[j]? =some u->w.cell? ⟨b,j,none⟩=some u):(loadVar T ⟨b,0,none⟩).run P w= .ok (.agg vs.toArray) w:=by
 have hl:=RF (P:=P) w ⟨b,0,none⟩ vs (λ q u hu=>by rw [Qu,Qa];exact h q u hu)
 have hag:(isAgg T).run P w= .ok true w:=by
  unfold dE at hT
  cases hun:P.underlying T with
  |none=>simp [hun] at hT
  |some D=>cases D<;>simp [hun] at hT<;>simp [isAgg,PN hun,go_sem]
 have hsz:(sizeOf T).run P w= .ok vs.length w:=by
  unfold dE at hT
  cases hun:P.underlying T with
  |none=>simp [hun] at hT
  |some D=>
   cases hin:P.info? T with
   |none=>cases D<;>simp [hun,hin] at hT
   |some inf=>cases D<;>simp [hun,hin] at hT<;>simp [sizeOf,typeInfo,hin,hT,go_sem]
 simp only [loadVar,PS,hag,PL,hsz,RA,hl,PZ]
theorem zV {fn:Func} {Φ:Value->World->Prop} {t T b:Nat} {vs:List Value} (hr:fn.results= #[.cell t T]) (hv:look L t=some (.pointer (some ⟨b,0,none⟩))) (hT:dE P T vs.length=true) (hc:∀ j u,vs[j]? =some u->w.cell? ⟨b,j,none⟩=some u)
  (h:Φ (.agg vs.toArray) w):aL P n fn Φ L w:=λ a ha=>by
 have h1:=ha.slot t _ hv
 refine ⟨_,?_,h⟩
 simp [results,hr,QM,h1,asAddr,jU hT hc]
theorem Ev.Lb {x:Operand} {xt:TypeId} {a:Nat} (hx:aJ L x=some (.int .u32 (a:Int))) (ha:a<4294967296):Ev P n L w ⟨d,.unOp .xor xt x,ty,pos,af,g⟩ (.int .u32 ((4294967295^^^a:Nat):Int)):= .of λ ρ hρ=>by
 have h:=Bn (P:=P) (k:= .u32) rfl (a:=4294967295) (b:=a) (by simp only [IntKind.bits];omega) (by simp only [IntKind.bits];omega) w
 have hm:IntKind.u32.max=((4294967295:Nat):Int):=by decide
 simp only [execOp,hρ hx,Op.unary,IntKind.signed,QA,QP,hm,PS,h,PL,PZ]
end
section
variable {P:Program} {n:Nat} {L:aB} {w:World} {d:Option Nat} {ty:TypeId} {pos:String} {af:Array Edge} {g:Option (Nat×Bool)}
theorem OM {s:ByteArray} {j:Nat} {b:UInt8} (h:s.data.toList[j]? =some b):s[j]? =some b:=by
 obtain ⟨hj,rfl⟩:=AT.1 h
 have hj':j<s.size:=by simpa using hj
 rw [getElem?_pos s j hj']
 rfl
theorem Ev.eW {x i:Operand} {t:TypeId} {s:ByteArray} {j:Nat} {b:UInt8} (ht:P.underlying t=some .string) (hx:aJ L x=some (.string s)) (hi:aJ L i=some (.int .i64 (j:Int))) (hb:s.data.toList[j]? =some b):
  Ev P n L w ⟨d,.index t x i,ty,pos,af,g⟩ (.int .u8 ((b.toNat:Nat):Int)):= .of λ ρ hρ=>by
 have hb':=OM hb
 have h0:(0:Int)<=(j:Int):=by omega
 simp only [execOp,hρ hx,hρ hi]
 simp [Instr.index,asIntOf,PN ht,hb',h0,go_sem]
end
section
variable {P:Program} {n:Nat} {ops:List Oper} {K:aB->World->Prop} {L:aB} {w:World} {S:World->Prop} {SS:List (World->Prop)} {p q:Plan}
end
section
variable {P:Program} {n:Nat} {L:aB} {w w0:World} {cs:List Chunk} {K:Value->World->Prop} {d:Option Nat} {ty:TypeId} {pos:String} {af:Array Edge} {g:Option (Nat×Bool)} {α:Type} {E:Enc α}
theorem OpE.gW {t e b m:Nat} {z:Value} {parts:List (Nat×Operand)} {vs:List (Nat×Value)} (E:Enc α) (l:List α) (hty:SlTy P t e 1 z b) (hp:cW L parts=some vs) (h1:ou vs) (hz1:z.oneCell'=true) (ho:Kw.setArr vs (List.replicate m z)=some (E.all l)) (hl:l.length=m) (hE:E.s=1) (hm0:m≠0) (hm:m<=16777216) (hs:Sat w0 cs w)
  (hk:∀ u w',Sat w0 (cs++[cL u e E l]) w'->Chg [] w w'->K u w'):OpE P n L w ⟨d,.buildSlice t m parts.toArray,ty,pos,af,g⟩ K:=by
 obtain ⟨inf,i1,i2,i3,i4⟩:=hty.info
 have he:∀ ρ:Operand->Value,(∀ {x u},aJ L x=some u->ρ x=u)->∀ (parts:List (Nat×Operand)) (vs:List (Nat×Value)),cW L parts=some vs->parts.map (λ (i,x)=>(i,ρ x))=vs:=by
  intro ρ hρ parts
  induction parts with
  |nil=>intro vs h;simp [cW] at h;simp [h]
  |cons p r ih=>
   intro vs h
   obtain ⟨i,x⟩:=p
   simp only [cW,Rr,QI] at h
   obtain ⟨v,hv,us,hus,rfl⟩:=h
   simp [hρ hv,ih us hus]
 have hvc:z.cells= #[z]:=by cases z<;>first|rfl|cases hz1
 have hfill:=qN vs (List.replicate m z) (E.all l) h1 ho
 have hall:(E.all l).length=m:=by rw [E.all_length,hE,hl,QJ]
 have hzero:(Array.range m).map (λ q=>z.cells[q%z.cells.size]!)=(List.replicate m z).toArray:=by
  rw [hvc]
  apply Array.ext'
  apply SP
  ·simp
  ·intro i _ _;simp [Nat.mod_one]
 have hrun:(Instr.buildSlice t m vs.toArray).run P w= .ok (.slice (some ⟨w.heap.size,0,none⟩) m m) (w.alloc (.cells (E.all l).toArray e)):=by
  simp only [QJ] at hfill
  have h24:¬ 2^24<m:=by omega
  have r1:(zeroValue e).run P w= .ok z w:=by simp [zeroValue,typeInfo,i1,i2,go_sem]
  have r2:(sizeOf e).run P w= .ok 1 w:=by simp [sizeOf,typeInfo,i1,i3,go_sem]
  have r3:(newRow e (E.all l).toArray).run P w= .ok ⟨w.heap.size,0,none⟩ (w.alloc (.cells (E.all l).toArray e)):=by simp [newRow,go_sem]
  simp only [Instr.buildSlice,PN hty.und,r2,PS,PL,QJ,TD,h24,hm0,QP,r1,PZ,hzero,hfill,r3]
 refine .val (λ ρ hρ=> ?_) (hk (.slice (some ⟨w.heap.size,0,none⟩) m m) (w.alloc (.cells (E.all l).toArray e)) ?_ (.alloc _ _))
 ·simp only [execOp]
  rw [show (parts.toArray.map λ (i,x)=>(i,ρ x))=vs.toArray by rw [RC,he ρ hρ parts vs hp]]
  simp only [PS,hrun,PL,PZ]
 ·have h:=hs.uG e E.s m m (E.all l) (by unfold maxLen;omega) (KB _) (by rw [hall,hE,QJ])
  rw [hE,QJ,PV (by omega)] at h
  unfold cL
  rw [hl,hE];exact h
end
def strOf (l:List Nat):ByteArray:=⟨(l.map λ n=>UInt8.ofNat n).toArray⟩
theorem bX (l:List Nat):(strOf l).size=l.length:=by simp [strOf,ByteArray.size]
theorem foldl_push (l:List Nat):∀ r:ByteArray,(l.map λ n=>((n:Nat):Int)).foldl (λ r n=>r.push (UInt8.ofNat n.toNat)) r=⟨r.data++(l.map λ n=>UInt8.ofNat n).toArray⟩:=by
 induction l with
 |nil=>intro r;simp
 |cons b l ih=>intro r;simp only [Qm,RG];rw [ih];simp [ByteArray.push]
theorem Dc {a b:List Nat} (ha:∀ x∈a,x<256) (hb:∀ x∈b,x<256):strOf a=strOf b↔a=b:=by
 refine ⟨λ h=> ?_,λ h=>by rw [h]⟩
 have h1:a.map (λ n=>UInt8.ofNat n)=b.map (λ n=>UInt8.ofNat n):=by
  have:=If (λ s:ByteArray=>s.data.toList) h
  simpa [strOf] using this
 have h2:=If (List.map UInt8.toNat) h1
 rw [Sf,Sf] at h2
 have e:∀ l:List Nat,(∀ x∈l,x<256)->l.map (UInt8.toNat∘λ n=>UInt8.ofNat n)=l:=λ l hl=>by
  conv=>rhs;rw [<-map_id l]
  refine Rs λ x hx=> ?_
  have:=hl x hx
  simp [UInt8.toNat_ofNat,Q5 this]
 rwa [e a ha,e b hb] at h2
theorem Dd (l:List Nat):(aa .u8).all l=(l.map λ n=>((n:Nat):Int)).map (Value.int .u8):=by
 induction l with
 |nil=>rfl
 |cons y r ih=>rw [Enc.all_cons,Qm,Qm];exact If (Value.int .u8 ((y:Nat):Int):: ·) ih
theorem vm {a b:ByteArray}:(a.toList==b.toList)=decide (a=b):=by
 have h:a.toList=b.toList↔a=b:=⟨λ h=>by
  rw [RR,RR] at h
  obtain ⟨⟨x⟩⟩:=a;obtain ⟨⟨y⟩⟩:=b
  simp at h;rw [h],λ h=>by rw [h]⟩
 by_cases hab:a=b
 ·subst hab;simp
 ·rw [IN hab];simp;exact λ h'=>hab (h.1 h')
section
variable {P:Program} {n:Nat} {L:aB} {w w0:World} {cs:List Chunk} {K:Value->World->Prop} {d:Option Nat} {ty:TypeId} {pos:String} {af:Array Edge} {g:Option (Nat×Bool)}
theorem Ev.cZ {x:Operand} {s t e:TypeId} {v:Value} {l:List Nat} (hs:P.underlying s=some (.slice e)) (ht:P.underlying t=some .string) (he:P.underlying e=some (.int .u8)) (hx:aJ L x=some v) (h:RdL w v (aa .u8) l):
  Ev P n L w ⟨d,.convert s t x,ty,pos,af,g⟩ (.string (strOf l)):= .of λ ρ hρ=>by
 obtain ⟨a,cap,rfl,hn,hc⟩:=h
 have hrun:(convert s t (.slice a l.length cap)).run P w= .ok (.string (strOf l)) w:=by
  rw [run_convert_bytes_string w s t e a l.length cap hs he ht]
  have hall:=Dd l
  cases a with
  |none=>
   have hl:l=[]:=by
    cases l with
    |nil=>rfl
    |cons y r=>obtain ⟨b,o,ha,_⟩:=hc 0 (.int .u8 ((y:Nat):Int)) (by rw [Enc.all_cons];rfl);cases ha
   subst hl
   simp [Conv.bytesToString,PZ];rfl
  |some a=>
   have hlen:((aa .u8).all l).length=l.length:=by rw [(aa .u8).all_length];exact QJ _
   have hld:=RF (P:=P) w a ((aa .u8).all l) λ q u hu=>by
    obtain ⟨b,o,hb,hw⟩:=hc q u hu
    cases hb;rw [Qu];exact hw
   rw [hlen,hall] at hld
   rw [run_bytesToString w a l.length cap _ hld,foldl_push]
   simp [strOf]
 simp only [execOp,hρ hx]
 simp [hrun]
theorem Ev.eF {x y:Operand} {t T:TypeId} {a b:ByteArray} (hx:aJ L x=some (.string a)) (hy:aJ L y=some (.string b)):Ev P n L w ⟨d,.binOp .eql t x y T,ty,pos,af,g⟩ (.bool (decide (a=b))):=
 .bin hx hy (by rfl) λ w=>by rw [binOp_string_eql,vm];rfl
theorem Ev.ed {x y:Operand} {t T:TypeId} {a b:ByteArray} (hx:aJ L x=some (.string a)) (hy:aJ L y=some (.string b)):Ev P n L w ⟨d,.binOp .neq t x y T,ty,pos,af,g⟩ (.bool (decide (a≠b))):=
 .bin hx hy (by rfl) λ w=>by rw [binOp_string_neq,vm,<-decide_not];rfl
end
end Go.Kw
namespace Go.Kw
open Go.RowKit Go.MapKept
abbrev cU:=List (ByteArray×Nat)
def bj (m:cU):List (Value×Value):=m.map λ p=>(.string p.1,.int .i64 (p.2:Int))
def cC (es:Array MapEntry):List (Value×Value):=es.toList.map λ e=>(e.key,e.val)
def pJ (b:Nat) (m:cU):Chunk where
 foot:=[b]
 holds w:=∃ es clock,w.heap[b]? =some (.map es clock)/\Stamped es clock/\cC es=bj m
 stable w w' h hc:=by obtain ⟨es,clock,h1,r⟩:=hc;exact ⟨es,clock,by rw [h b (by simp)];exact h1,r⟩
def zW (b r:Nat) (m done:cU):Chunk where
 foot:=[b,r]
 holds w:=∃ es clock seen rest,w.heap[b]? =some (.map es clock)/\Stamped es clock/\cC es=bj m/\w.heap[r]? =some (.mapIter (some b) clock seen clock)/\
  (leftOf es seen).toList.map (λ e=>(e.key,e.val))=bj rest/\(done++rest).Perm m/\
  ∀ p,done.getLast? =some p->∃ e∈es.toList,seen.back? =some e.born/\e.key= .string p.1/\e.val= .int .i64 (p.2:Int)
 stable w w' h hc:=by obtain ⟨es,clock,seen,rest,h1,h2,h3,h4,h5⟩:=hc;exact ⟨es,clock,seen,rest,by rw [h b (by simp)];exact h1,h2,h3,by rw [h r (by simp)];exact h4,h5⟩
def oh (r:Nat) (s:ByteArray) (i:Nat):Chunk where
 foot:=[r]
 holds w:=w.heap[r]? =some (.stringIter s i)
 stable w w' h hc:=by rw [h r (by simp)];exact hc
def bp (m:cU):List ByteArray:=m.map (·.1)
def gU (m:cU) (s:ByteArray):Nat:=((m.find? λ p=>decide (p.1=s)).map (·.2)).getD 0
instance (s:ByteArray) (m:cU):Decidable (s∈bp m):=decidable_of_iff (∃ p∈m,p.1=s) (by simp [bp])
def sO (m:cU) (s:ByteArray):cU:=if s∈bp m then m else m++[(s,0)]
def vq (m:cU) (s:ByteArray) (c:Nat):cU:=m.map λ p=>if p.1=s then (p.1,c) else p
theorem Bf {es:Array MapEntry} {m:cU} (h:cC es=bj m) {e:MapEntry} (he:e∈es.toList):∃ s c,e.key= .string s/\e.val= .int .i64 ((c:Nat):Int)/\(s,c)∈m:=by
 have:(e.key,e.val)∈bj m:=by rw [<-h];exact Qn.2 ⟨e,he,rfl⟩
 obtain ⟨⟨s,c⟩,hp,heq⟩:=Qn.1 this
 simp only [Q6] at heq
 exact ⟨s,c,heq.1.symm,heq.2.symm,hp⟩
theorem xD {es:Array MapEntry} {m:cU} (h:cC es=bj m):∀ x∈es.toList,IsKey .string x.key:=λ x hx=>by
 obtain ⟨s,c,h1,_⟩:=Bf h hx
 rw [h1];exact trivial
theorem Bg {es:Array MapEntry} {m:cU} (h:cC es=bj m) {j:Nat} {e:MapEntry} (he:es.toList[j]? =some e):∃ p,m[j]? =some p/\e.key= .string p.1/\e.val= .int .i64 (p.2:Int):=by
 have h1:(cC es)[j]? =(bj m)[j]? :=by rw [h]
 unfold cC bj at h1
 rw [PX,PX,he] at h1
 cases hp:m[j]? with
 |none=>rw [hp] at h1;cases h1
 |some p=>rw [hp] at h1;simp at h1;exact ⟨p,rfl,h1.1,h1.2⟩
theorem om {es:Array MapEntry} {clock:Nat} {m:cU} (hs:Stamped es clock) (h:cC es=bj m):(bp m).Nodup:=by
 have h1:=hs.2.2
 have e:es.toList.map (·.key)=(bp m).map Value.string:=by
  have:=If (List.map Prod.fst) h
  simpa [cC,bj,bp,Sf,Sh] using this
 rw [e,List.Nodup,Tp] at h1
 exact h1.imp λ h e=>h (by rw [e])
theorem IJ {m:cU} (hn:(bp m).Nodup) {j:Nat} {p:ByteArray×Nat} (hj:m[j]? =some p):gU m p.1=p.2:=by
 induction m generalizing j with
 |nil=>simp at hj
 |cons q r ih=>
  obtain ⟨h1,h2⟩:=TH.1 (show (q.1::bp r).Nodup from hn)
  cases j with
  |zero=>simp at hj;subst hj;simp [gU]
  |succ j=>
   have hj':r[j]? =some p:=by simpa using hj
   have hne:q.1≠p.1:=λ e=>h1 (e▸Qn.2 ⟨p,PO hj',rfl⟩)
   have:=ih h2 hj'
   unfold gU at this⊢
   rw [R9 (by simpa using hne)];exact this
theorem De {m:cU} {s:ByteArray} (h:s∉bp m):gU m s=0:=by
 unfold gU
 rw [find?_eq_none.2 λ p hp=>by simp;exact λ e=>h (Qn.2 ⟨p,hp,e⟩)];rfl
theorem F5 {m:cU} {s t:ByteArray} {c:Nat} (h:s∈bp m):gU (vq m s c) t=if t=s then c else gU m t:=by
 unfold gU vq
 induction m with
 |nil=>cases h
 |cons p r ih=>
  by_cases hp:p.1=s
  ·by_cases ht:t=s
   ·subst ht;rw [Qm,PI hp,Sp (by simpa using hp),PI rfl];rfl
   ·rw [Qm,PI hp,R9 (by simp;exact λ e=>ht (e.symm.trans hp)),M2 ht,R9 (by simp;exact λ e=>ht (e.symm.trans hp))]
    clear ih
    have:∀ l:cU,(List.find? (λ p=>decide (p.1=t)) (l.map λ p=>if p.1=s then (p.1,c) else p))=List.find? (λ p=>decide (p.1=t)) l:=λ l=>by
     induction l with
     |nil=>rfl
     |cons q l ih=>
      rw [Qm]
      by_cases hq:q.1=s
      ·rw [PI hq,R9 (by simp;exact λ e=>ht (e.symm.trans hq)),R9 (by simp;exact λ e=>ht (e.symm.trans hq)),ih]
      ·rw [M2 hq]
       by_cases hqt:q.1=t
       ·rw [Sp (by simpa using hqt),Sp (by simpa using hqt)]
       ·rw [R9 (by simpa using hqt),R9 (by simpa using hqt),ih]
    rw [this]
  ·have hr:s∈bp r:=by
    rcases PR.1 (show s∈p.1::bp r from h) with e|e
    ·exact absurd e.symm hp
    ·exact e
   rw [Qm,M2 hp]
   by_cases hpt:p.1=t
   ·rw [Sp (by simpa using hpt),Sp (by simpa using hpt),M2 (λ e=>hp (hpt.trans e))]
   ·rw [R9 (by simpa using hpt),R9 (by simpa using hpt)];exact ih hr
theorem Df (m:cU) (s:ByteArray) (c:Nat):bp (vq m s c)=bp m:=by
 unfold bp vq
 rw [Sf]
 exact Rs λ p _=>by simp only [Function.comp];split<;>rfl
theorem tJ (m:cU) (s:ByteArray):s∈bp (sO m s)/\∀ t,t∈bp (sO m s)↔t=s\/t∈bp m:=by
 unfold sO
 split
 ·rename_i h
  exact ⟨h,λ t=>⟨.inr,λ ht=>ht.elim (λ e=>e▸h) id⟩⟩
 ·refine ⟨by simp [bp],λ t=> ?_⟩
  simp only [bp,Ql,Qm,Sl,PT,Q0]
  exact Or.comm
theorem F6 (m:cU) (s t:ByteArray):gU (sO m s) t=gU m t:=by
 unfold sO
 split
 ·rfl
 ·rename_i h
  unfold gU
  rw [find?_append]
  cases hf:m.find? λ p=>decide (p.1=t) with
  |some p=>rfl
  |none=>
   simp only [Option.none_or,SJ,Option.getD_none]
   by_cases hst:s=t
   ·rw [Sp (by simpa using hst)];rfl
   ·rw [R9 (by simpa using hst)];rfl
theorem xE (m:cU) (s:ByteArray):(sO m s).length<=m.length+1:=by
 unfold sO;split<;>simp
section
variable {P:Program} {n:Nat} {L:aB} {w w0:World} {cs:List Chunk} {K:Value->World->Prop} {d:Option Nat} {ty:TypeId} {pos:String} {af:Array Edge} {g:Option (Nat×Bool)}
theorem OpE.makeMap {t:TypeId} (hs:Sat w0 cs w) (hk:∀ b w',Sat w0 (cs++[pJ b []]) w'->K (.map (some b)) w'):OpE P n L w ⟨d,.makeMap t none,ty,pos,af,g⟩ K:=by
 refine .val (v:= .map (some w.heap.size)) (w':=w.alloc (.map #[] 0)) (λ ρ hρ=> ?_) (hk _ _ (hs.add (.alloc _ _) ⟨#[],0,RE w _,stamped_empty 0,rfl⟩ (by simp [pJ])))
 simp [execOp,Instr.makeMap,go_sem]
theorem Ev.MU {x:Operand} {t k e:TypeId} {i b:Nat} {m:cU} (hu:P.underlying t=some (.map k e)) (hs:Sat w0 cs w) (hi:cs[i]? =some (pJ b m)) (hx:aJ L x=some (.map (some b))):
  Ev P n L w ⟨d,.call ⟨.builtin .len,#[x],#[t]⟩,ty,pos,af,g⟩ (.int .i64 ((m.length:Nat):Int)):= .of λ ρ hρ=>by
 obtain ⟨es,clock,hb,hst,hc⟩:=hs.get hi
 have hl:es.size=m.length:=by have:=If List.length hc;simpa [cC,bj] using this
 simp [execOp,hρ hx,resolve,invoke,Builtin.len_,PN hu,R5 hb,go_sem,goInt,hl]
theorem qO {t k e:TypeId} {b:Nat} {es:Array MapEntry} {clock:Nat} {m:cU} (hu:P.underlying t=some (.map k e)) (hks:P.underlying k=some .string) (hz:(zeroValue e).run P w= .ok (.int .i64 0) w)
  (hb:w.heap[b]? =some (.map es clock)) (hst:Stamped es clock) (hc:cC es=bj m) (s:ByteArray):
  (Instr.lookup t (.map (some b)) (.string s) false).run P w= .ok (.int .i64 ((gU m s:Nat):Int)) w:=by
 have hk:IsKey .string (.string s):=trivial
 have hn:=om hst hc
 rcases findNow_spec hk es.toList 0 (xD hc) with ⟨h1,h2⟩|⟨j,e0,h1,h2,h3⟩
 ·have h0:gU m s=0:=De λ hm=>by
   obtain ⟨p,hp,rfl⟩:=Qn.1 hm
   have:(Value.string p.1,Value.int .i64 (p.2:Int))∈cC es:=by rw [hc];exact Qn.2 ⟨p,hp,rfl⟩
   obtain ⟨x,hx,hxe⟩:=Qn.1 this
   exact h2 x hx (by simpa using If Prod.fst hxe)
  rw [h0]
  simp [Instr.lookup,PN hu,R5 hb,RL hks hk,RV hks h1,hz,Result.andThen]
 ·obtain ⟨p,hp,hpk,hpv⟩:=Bg hc h2
  have:p.1=s:=by rw [hpk] at h3;cases h3;rfl
  subst this
  rw [IJ hn hp]
  simp [Instr.lookup,PN hu,R5 hb,RL hks hk,RV hks h1,hpv,Result.andThen]
theorem Ev.lookup {x y:Operand} {t k e:TypeId} {i b:Nat} {m:cU} {s:ByteArray} (hu:P.underlying t=some (.map k e)) (hks:P.underlying k=some .string) (hz:∀ w,(zeroValue e).run P w= .ok (.int .i64 0) w)
  (hs:Sat w0 cs w) (hi:cs[i]? =some (pJ b m)) (hx:aJ L x=some (.map (some b))) (hy:aJ L y=some (.string s)):
  Ev P n L w ⟨d,.lookup t x y false,ty,pos,af,g⟩ (.int .i64 ((gU m s:Nat):Int)):= .of λ ρ hρ=>by
 obtain ⟨es,clock,hb,hst,hc⟩:=hs.get hi
 simp only [execOp,hρ hx,hρ hy,PS,qO hu hks (hz w) hb hst hc s,PL,PZ]
theorem Chg.any {S:List Nat} {w w':World} (h:Chg [] w w'):Chg S w w':=⟨h.os,h.tape,h.output,h.size,λ q hq _=>h.block q hq (by simp)⟩
theorem Dg {l:List MapEntry} {e:MapEntry} (he:e∈l) (hnd:(l.map (·.born)).Nodup):(e::l.filter λ x=> !(x.born==e.born)).Perm l:=by
 induction l with
 |nil=>cases he
 |cons y l ih=>
  obtain ⟨h1,h2⟩:=TH.1 (show (y.born::l.map (·.born)).Nodup from hnd)
  rcases PR.1 he with rfl|he
  ·rw [Rp (by simp),RH.2 λ x hx=>by
    have:x.born≠e.born:=λ q=>h1 (q▸Qn.2 ⟨x,hx,rfl⟩)
    simpa using this]
  ·have hne:y.born≠e.born:=λ q=>h1 (q▸Qn.2 ⟨e,he,rfl⟩)
   rw [QT (by simpa using hne)]
   exact (List.Perm.swap ..).trans ((ih he h2).cons y)
theorem kM {b:Nat} {o:Obj} (o':Obj) (hb:w.heap[b]? =some o):Chg [b] w {w with heap:=w.heap.setIfInBounds b o'}:=
 ⟨rfl,rfl,rfl,by simp,λ k _ hn=>(RW hb).2 k (by simpa using hn)⟩
theorem OpE.rangeMap {x:Operand} {t k e:TypeId} {i b:Nat} {m:cU} (hu:P.underlying t=some (.map k e)) (hs:Sat w0 cs w) (hi:cs[i]? =some (pJ b m)) (hx:aJ L x=some (.map (some b)))
  (hk:∀ r w',Sat w0 (cs.set i (zW b r m [])) w'->K (.pointer (some ⟨r,0,none⟩)) w'):OpE P n L w ⟨d,.range t x,ty,pos,af,g⟩ K:=by
 obtain ⟨es,clock,hb,hst,hc⟩:=hs.get hi
 have hlt:b<w.heap.size:=(Rx.1 hb).1
 refine .val (v:= .pointer (some ⟨w.heap.size,0,none⟩)) (w':=w.alloc (.mapIter (some b) clock #[] clock)) (λ ρ hρ=> ?_)
  (hk _ _ (hs.set i hi (Chg.alloc w _).any
   ⟨es,clock,#[],m,((MapKept.heap_alloc w _).2 b hlt).trans hb,hst,hc,(MapKept.heap_alloc w _).1,?_,by simp,by simp⟩ ?_))
 ·simp only [execOp,hρ hx,PS,run_range_map w t k e b es clock hu hb,PL,PZ]
 ·rw [show leftOf es #[]=es from by unfold leftOf;exact Array.filter_eq_self.2 (by simp)];exact hc
 ·intro q hq
  rcases PR.1 (show q∈[b,w.heap.size] from hq) with rfl|hq
  ·exact .inl (Q0.2 rfl)
  ·refine .inr ?_
   have:q=w.heap.size:=by simpa using hq
   subst this
   exact ⟨KB _,by simp⟩
theorem OpE.Kk {x:Operand} {i b r:Nat} {m done:cU} (hs:Sat w0 cs w) (hi:cs[i]? =some (zW b r m done)) (hx:aJ L x=some (.pointer (some ⟨r,0,none⟩)))
  (hd:done.Perm m->K (.tuple #[.bool false]) w)
  (hm:∀ s c w',(s,c)∈m->Sat w0 (cs.set i (zW b r m (done++[(s,c)]))) w'->K (.tuple #[.bool true,.string s,.int .i64 ((c:Nat):Int)]) w'):OpE P n L w ⟨d,.next x false,ty,pos,af,g⟩ K:=by
 obtain ⟨es,clock,seen,rest,hb,hst,hc,hr,hl,hp,_⟩:=hs.get hi
 have hne:r≠b:=λ e=>by rw [e,hb] at hr;cases hr
 rcases run_next_at (P:=P) w ty r b clock clock seen es clock hr hb hst.1 (KB _) with ⟨h0,hrun⟩|⟨e,he,w1,hal,hrun⟩
 ·have hrest:rest=[]:=by
   have:=If List.length hl
   simp [bj,h0] at this
   exact Q2 this.symm
  subst hrest
  refine .val (λ ρ hρ=> ?_) (hd (by simpa using hp))
  simp only [execOp,hρ hx,PS,hrun,PL,PZ]
 ·obtain ⟨hem,hes⟩:=mem_left he
  obtain ⟨s,c,hk1,hv1,hmem⟩:=Bf hc hem
  have hw1:w1=w\/w1=w.drew:=hal
  have hr1:w1.heap[r]? =some (.mapIter (some b) clock seen clock):=by rcases hal with rfl|rfl<;>exact hr
  have hb1:w1.heap[b]? =some (.map es clock):=by rcases hal with rfl|rfl<;>exact hb
  have hset:=RW (o':= .mapIter (some b) clock (seen.push e.born) clock) hr1
  have hb':(ChangeMaps.setBlock w1 r (.mapIter (some b) clock (seen.push e.born) clock)).heap[b]? =some (.map es clock):=(hset.2 b (λ e1=>hne e1.symm)).trans hb1
  have hleft:∃ rest',(leftOf es (seen.push e.born)).toList.map (λ e=>(e.key,e.val))=bj rest'/\((s,c)::rest').Perm rest:=by
   have hperm:(e::(leftOf es (seen.push e.born)).toList).Perm (leftOf es seen).toList:=by
    have hnd:((leftOf es seen).toList.map (·.born)).Nodup:=by
     have:(leftOf es seen).toList.Sublist es.toList:=by unfold leftOf;rw [Tq];exact filter_sublist
     exact hst.2.1.sublist (this.map _)
    have e1:(leftOf es (seen.push e.born)).toList=(leftOf es seen).toList.filter λ x=> !(x.born==e.born):=by
     unfold leftOf
     rw [Tq,Tq,filter_filter]
     congr 1
     funext x
     rw [contains_push]
     cases seen.contains x.born<;>cases (x.born==e.born)<;>rfl
    rw [e1]
    exact Dg he hnd
   have hm:=hperm.map (λ e=>(e.key,e.val))
   rw [hl,Qm,hk1,hv1] at hm
   have hall:∀ q∈(leftOf es (seen.push e.born)).toList.map (λ e=>(e.key,e.val)),∃ p:ByteArray×Nat,q=(Value.string p.1,Value.int .i64 (p.2:Int)):=λ q hq=>by
    have:=hm.subset (Qr _ hq)
    obtain ⟨p,_,rfl⟩:=Qn.1 this
    exact ⟨p,rfl⟩
   have hex:∀ l:List (Value×Value),(∀ q∈l,∃ p:ByteArray×Nat,q=(Value.string p.1,Value.int .i64 (p.2:Int)))->∃ rest':cU,l=bj rest':=λ l=>by
    induction l with
    |nil=>exact λ _=>⟨[],rfl⟩
    |cons a l ih=>
     intro h
     obtain ⟨p,hp⟩:=h a (QD ..)
     obtain ⟨r',hr'⟩:=ih λ q hq=>h q (Qr _ hq)
     exact ⟨p::r',by rw [hp,hr'];rfl⟩
   obtain ⟨rest',hr'⟩:=hex _ hall
   refine ⟨rest',hr',?_⟩
   rw [hr'] at hm
   have hm2:(bj ((s,c)::rest')).Perm (bj rest):=hm
   have hinj:∀ a b:cU,(bj a).Perm (bj b)->a.Perm b:=λ a b h=>by
    have:=h.map (λ q:Value×Value=>match q with|(.string s,.int _ z)=>(s,z.toNat)|_=>(ByteArray.empty,0))
    simpa [bj,Sf,Sh] using this
   exact hinj _ _ hm2
  obtain ⟨rest',hl',hp'⟩:=hleft
  refine .val (v:= .tuple #[.bool true,.string s,.int .i64 ((c:Nat):Int)]) (w':=ChangeMaps.setBlock w1 r (.mapIter (some b) clock (seen.push e.born) clock)) (λ ρ hρ=> ?_)
   (hm s c _ hmem (hs.set i hi ?_ ⟨es,clock,seen.push e.born,rest',hb',hst,hc,hset.1,hl',?_,λ p hp=>⟨e,hem,by simp,?_⟩⟩ (λ _ h=> .inl h)))
  ·rw [<-hk1,<-hv1]
   simp only [execOp,hρ hx,PS,hrun,PL,PZ]
  ·rcases hal with rfl|rfl<;>exact ⟨rfl,rfl,rfl,by simp [ChangeMaps.setBlock],λ q _ hq=>hset.2 q (λ e1=>hq (by rw [e1];exact Qr _ (Q0.2 rfl)))⟩
  ·refine List.Perm.trans ?_ hp
   rw [LW]
   exact hp'.append_left done
  ·have:p=(s,c):=by simpa using hp.symm
   subst this;exact ⟨hk1,hv1⟩
theorem Ev.entry {x:Operand} {i b r:Nat} {m done:cU} {s:ByteArray} {c:Nat} (hs:Sat w0 cs w) (hi:cs[i]? =some (zW b r m (done++[(s,c)]))) (hx:aJ L x=some (.pointer (some ⟨r,0,none⟩))):
  Ev P n L w ⟨d,.entry x,ty,pos,af,g⟩ (.tuple #[.string s,.int .i64 ((c:Nat):Int)]):= .of λ ρ hρ=>by
 obtain ⟨es,clock,seen,rest,hb,hst,hc,hr,hl,hp,hlast⟩:=hs.get hi
 obtain ⟨e,he,hbk,hk,hv⟩:=hlast (s,c) (by simp)
 have hf:es.find? (·.born==e.born)=some e:=by rw [<-Array.find?_toList];exact find_born e es.toList hst.2.1 he
 have hrun:(Instr.entry (.pointer (some ⟨r,0,none⟩))).run P w= .ok (.tuple #[e.key,e.val]) w:=by
  simp only [Instr.entry,getObj,PS,Sem.run,hr,hb,Result.andThen,hbk,bne_self_eq_false,QA,QP,hf]
  rfl
 simp only [execOp,hρ hx,PS,hrun,PL,PZ,hk,hv]
def pK (m:cU) (s:ByteArray) (c:Nat):cU:=vq (sO m s) s c
theorem Dh (m:cU) (s:ByteArray) (c:Nat):∀ t,t∈bp (pK m s c)↔t=s\/t∈bp m:=λ t=>by
 unfold pK;rw [Df];exact (tJ m s).2 t
theorem F7 (m:cU) (s t:ByteArray) (c:Nat):gU (pK m s c) t=if t=s then c else gU m t:=by
 unfold pK;rw [F5 (tJ m s).1,F6]
theorem xF (m:cU) (s:ByteArray) (c:Nat):(pK m s c).length<=m.length+1:=by
 unfold pK vq;rw [No];exact xE m s
theorem OpE.mapUpdate {x y z:Operand} {t k e:TypeId} {i b c:Nat} {m:cU} {s:ByteArray} (hu:P.underlying t=some (.map k e)) (hks:P.underlying k=some .string)
  (hs:Sat w0 cs w) (hi:cs[i]? =some (pJ b m)) (hx:aJ L x=some (.map (some b))) (hy:aJ L y=some (.string s)) (hz:aJ L z=some (.int .i64 ((c:Nat):Int)))
  (hk:∀ w',Sat w0 (cs.set i (pJ b (pK m s c))) w'->K undef w'):OpE P n L w ⟨d,.mapUpdate t x y z,ty,pos,af,g⟩ K:=by
 obtain ⟨es,clock,hb,hst,hc⟩:=hs.get hi
 have hkey:IsKey .string (.string s):=trivial
 have hn:=om hst hc
 rcases findNow_spec hkey es.toList 0 (xD hc) with ⟨h1,h2⟩|⟨j,e0,h1,h2,h3⟩
 ·have hnm:s∉bp m:=λ hm=>by
   obtain ⟨p,hp,rfl⟩:=Qn.1 hm
   have:(Value.string p.1,Value.int .i64 (p.2:Int))∈cC es:=by rw [hc];exact Qn.2 ⟨p,hp,rfl⟩
   obtain ⟨x,hx,hxe⟩:=Qn.1 this
   exact h2 x hx (by simpa using If Prod.fst hxe)
  refine .unit (w':={w with heap:=w.heap.setIfInBounds b (.map (es.push {key:= .string s,val:= .int .i64 ((c:Nat):Int),born:=clock}) (clock+1))}) (λ ρ hρ=> ?_)
   (hk _ (hs.set i hi (kM _ hb) ⟨_,_,(RW hb).1,stamped_push hst h2,?_⟩ (λ _ h=> .inl h)))
  ·simp [execOp,hρ hx,hρ hy,hρ hz,Instr.mapUpdate,PN hu,R5 hb,RL hks hkey,RV hks h1,SF _ hb,Result.andThen]
  ·have e1:pK m s c=m++[(s,c)]:=by
    unfold pK sO vq
    rw [M2 hnm,Ql]
    have:m.map (λ p=>if p.1=s then (p.1,c) else p)=m:=by
     conv=>rhs;rw [<-map_id m]
     exact Rs λ p hp=>M2 λ (e:p.1=s)=>hnm (e▸Qn.2 ⟨p,hp,rfl⟩)
    rw [this];simp
   rw [e1]
   simp only [cC,Array.toList_push,Ql,Qm,Sl]
   rw [show es.toList.map (λ e=>(e.key,e.val))=bj m from hc]
   simp [bj]
 ·obtain ⟨p0,hp0,hp0k,hp0v⟩:=Bg hc h2
  have hp0s:p0.1=s:=by rw [hp0k] at h3;cases h3;rfl
  have hm:s∈bp m:=hp0s▸Qn.2 ⟨p0,PO hp0,rfl⟩
  have hj:es[j]? =some e0:=by simpa using h2
  have hek:e0.key= .string s:=h3
  have hkk:∀ e',es[j]? =some e'->({e' with key:= .string s,val:= .int .i64 ((c:Nat):Int)}:MapEntry).key=e'.key:=λ e' he'=>by rw [hj] at he';cases he';exact hek.symm
  refine .unit (w':={w with heap:=w.heap.setIfInBounds b (.map (es.modify j λ e=>{e with key:= .string s,val:= .int .i64 ((c:Nat):Int)}) clock)}) (λ ρ hρ=> ?_)
   (hk _ (hs.set i hi (kM _ hb) ⟨_,_,(RW hb).1,stamped_modify hst j _ (λ _ _=>rfl) (λ e' _ he'=>hkk e' he'),?_⟩ (λ _ h=> .inl h)))
  ·simp [execOp,hρ hx,hρ hy,hρ hz,Instr.mapUpdate,PN hu,R5 hb,RL hks hkey,RV hks h1,hj,hek,MapKept.run_keyThatStays hkey,SF _ hb,Result.andThen]
  ·have e1:pK m s c=vq m s c:=by unfold pK sO;rw [PI hm]
   rw [e1]
   unfold cC bj vq
   rw [Sf]
   apply RM
   intro q
   rw [PX,PX,Se,Rl]
   have hcq:(es[q]?).map (λ e=>(e.key,e.val))=(m[q]?).map λ p=>(Value.string p.1,Value.int .i64 (p.2:Int)):=by
    have:=If (·[q]?) hc
    simpa [cC,bj,PX] using this
   by_cases hq:j=q
   ·subst hq
    rw [PI rfl,hj,hp0]
    simp [Function.comp,hp0s]
   ·rw [M2 hq,hcq]
    cases hmq:m[q]? with
    |none=>rfl
    |some p=>
     have hne:p.1≠s:=λ e=>by
      have hql:q<(bp m).length:=by have:=(AT.1 hmq).1;simpa [bp] using this
      have e1:(bp m)[q]? =(bp m)[j]? :=by simp [bp,hmq,hp0,e,hp0s]
      exact hq ((getElem?_inj hql hn).1 e1).symm
     simp [Function.comp,hne]
theorem OpE.sI {x:Operand} {t:TypeId} {s:ByteArray} (hu:P.underlying t=some .string) (hs:Sat w0 cs w) (hx:aJ L x=some (.string s))
  (hk:∀ r w',Sat w0 (cs++[oh r s 0]) w'->K (.pointer (some ⟨r,0,none⟩)) w'):OpE P n L w ⟨d,.range t x,ty,pos,af,g⟩ K:=by
 refine .val (v:= .pointer (some ⟨w.heap.size,0,none⟩)) (w':=w.alloc (.stringIter s 0)) (λ ρ hρ=> ?_) (hk _ _ (hs.add (.alloc _ _) (RE w _) (by simp [oh])))
 simp [execOp,hρ hx,Instr.range,PN hu,go_sem]
theorem OpE.wL {x:Operand} {i r j:Nat} {s:ByteArray} (hs:Sat w0 cs w) (hi:cs[i]? =some (oh r s j)) (hx:aJ L x=some (.pointer (some ⟨r,0,none⟩)))
  (hd:s.size<=j->K (.tuple #[.bool false]) w)
  (hm:∀ w',j<s.size->Sat w0 (cs.set i (oh r s (j+(dec (s.data.toList.drop j)).2))) w'->K (.tuple #[.bool true,.int .i64 ((j:Nat):Int),.int .i32 (((dec (s.data.toList.drop j)).1:Nat):Int)]) w'):OpE P n L w ⟨d,.next x true,ty,pos,af,g⟩ K:=by
 have hr:w.heap[r]? =some (.stringIter s j):=hs.get hi
 have hg:(getObj r).run P w= .ok (.stringIter s j) w:=by simp [getObj,Sem.run,hr]
 by_cases hj:j<s.size
 ·have NG:=Ag s j
  refine .val (v:= .tuple #[.bool true,.int .i64 ((j:Nat):Int),.int .i32 (((dec (s.data.toList.drop j)).1:Nat):Int)]) (w':={w with heap:=w.heap.setIfInBounds r (.stringIter s (j+(dec (s.data.toList.drop j)).2))}) (λ ρ hρ=> ?_)
   (hm _ hj (hs.set i hi (kM _ hr) (RW hr).1 (λ _ h=> .inl h)))
  have hset:(setObj r (.stringIter s (j+(dec (s.data.toList.drop j)).2))).run P w= .ok () {w with heap:=w.heap.setIfInBounds r (.stringIter s (j+(dec (s.data.toList.drop j)).2))}:=by simp [setObj,Sem.run,hr]
  simp [execOp,hρ hx,Instr.next,hg,hj,NG,hset,Result.andThen,goInt]
 ·refine .val (v:= .tuple #[.bool false]) (w':=w) (λ ρ hρ=> ?_) (hd (by omega))
  simp [execOp,hρ hx,Instr.next,hg,hj,Result.andThen]
theorem lB:∀ (x y:List UInt8),Op.bytesLess x y=decide (x<y)
 |[],[]=>by simp [Op.bytesLess]
 |_::_,[]=>by simp [Op.bytesLess]
 |[],_::_=>by simp [Op.bytesLess]
 |a::x,b::y=>by
  have e:(a==b)=decide (a=b):=by by_cases h:a=b<;>simp [h]
  rw [Op.bytesLess,lB x y,e]
  simp [cons_lt_cons_iff]
theorem n3 (a b:ByteArray):Op.bytesLess a.toList b.toList=decide (SLt a b):=by
 rw [lB,RR,RR];rfl
theorem Ev.wO {x y:Operand} {t T:TypeId} {a b:ByteArray} (hx:aJ L x=some (.string a)) (hy:aJ L y=some (.string b)):Ev P n L w ⟨d,.binOp .lss t x y T,ty,pos,af,g⟩ (.bool (decide (SLt a b))):=
 .bin hx hy (by rfl) λ w=>by rw [binOp_string_lss,n3];rfl
theorem Ev.sC {x y:Operand} {t T:TypeId} {a b:ByteArray} (hx:aJ L x=some (.string a)) (hy:aJ L y=some (.string b)):Ev P n L w ⟨d,.binOp .geq t x y T,ty,pos,af,g⟩ (.bool (decide (¬ SLt a b))):=
 .bin hx hy (by rfl) λ w=>by rw [show binOp .geq t (.string a) (.string b)=pure (.bool !(Op.bytesLess a.toList b.toList)) by simp [binOp,Op.stringOp],n3];simp
theorem Ev.MK {x y:Operand} {t T:TypeId} {a b:ByteArray} (hx:aJ L x=some (.string a)) (hy:aJ L y=some (.string b)):Ev P n L w ⟨d,.binOp .leq t x y T,ty,pos,af,g⟩ (.bool (decide (¬ SLt b a))):=
 .bin hx hy (by rfl) λ w=>by
  rw [show binOp .leq t (.string a) (.string b)=pure (.bool (Op.bytesLess a.toList b.toList||a.toList==b.toList)) by simp [binOp,Op.stringOp],n3,vm]
  have:(decide (SLt a b)||decide (a=b))=decide (¬ SLt b a):=by
   by_cases h:SLt a b
   ·simp [h,h.ML]
   ·by_cases e:a=b
    ·subst e;simp [SLt.sD]
    ·simp [h,e,SLt.HT h e]
  rw [this];rfl
theorem Ev.HN {x y:Operand} {t T:TypeId} {a b:ByteArray} (hx:aJ L x=some (.string a)) (hy:aJ L y=some (.string b)):Ev P n L w ⟨d,.binOp .gtr t x y T,ty,pos,af,g⟩ (.bool (decide (SLt b a))):=
 .bin hx hy (by rfl) λ w=>by
  rw [show binOp .gtr t (.string a) (.string b)=pure (.bool !(Op.bytesLess a.toList b.toList||a.toList==b.toList)) by simp [binOp,Op.stringOp],n3,vm]
  have:(!(decide (SLt a b)||decide (a=b)))=decide (SLt b a):=by
   by_cases h:SLt a b
   ·simp [h,h.ML]
   ·by_cases e:a=b
    ·subst e;simp [SLt.sD]
    ·simp [h,e,SLt.HT h e]
  rw [this];rfl
end
end Go.Kw
namespace Go.Kw
open Go.RowKit
def Mk (D:List Deferred) (a0 a:Act):Prop:=a.tmps=a0.tmps/\a.defers=a0.defers++D
theorem Mk.eval {D:List Deferred} {a0 a:Act} (h:Mk D a0 a):a.eval=a0.eval:=by
 funext x;cases x<;>simp [Act.eval,h.1]
theorem Mk.put {D:List Deferred} {a0 a:Act} (h:Mk D a0 a) (d:Option Nat) (v:Value):Mk D (a0.put d v) (a.put d v):=by
 cases d with
 |none=>exact h
 |some d=>exact ⟨by simp [Act.put,h.1],h.2⟩
section
variable {P:Program} {n:Nat} {L:aB} {w:World} {K:aB->World->Prop} {ops:List Oper} {D:List Deferred}
theorem IK {o:Oper} {a0 a:Act} (h:Mk D a0 a) {next next':Act->World->Prop} {Q Q':Exit->Act->World->Prop}
  (hn:∀ b0 b w,Mk D b0 b->next b0 w->next' b w) (hq:∀ e b0 b w,Mk D b0 b->Q e b0 w->Q' e b w) (hl:¬ LetsOut Q) {r:Result Next} (H:o.upon P a0 next Q r):o.upon P a next' Q' r:=by
 cases r with
 |ok x w'=>
  cases x with
  |value v=>exact hn _ _ _ (h.put _ _) H
  |skip=>exact hn _ _ _ (h.put _ _) H
  |defer d=>exact hn _ _ _ (Mk.put (a0:={a0 with defers:=d::a0.defers}) (a:={a with defers:=d::a.defers}) ⟨h.1,by simp [h.2]⟩ _ _) H
  |enter f args=>
   rw [Oper.upon_enter] at H⊢
   refine Rg H λ e w'' he=> ?_
   cases e with
   |returned v=>exact hn _ _ _ (h.put _ _) he
   |panicked c=>exact hq _ _ _ _ h he
   |outgrown=>exact absurd he hl
  |row row args=>
   rw [Oper.upon_row] at H⊢
   exact Rows.mono H λ v w'' he=>hn _ _ _ (h.put _ _) he
  |_=>exact (H:False).elim
 |halt x w'=>
  cases x with
  |panic v=>exact hq _ _ _ _ h H
  |_=>exact (H:False).elim
theorem zX:¬ LetsOut (RQ n K):=λ ⟨_,_,h⟩=>h
theorem oo {Q':Exit->Act->World->Prop} (hq:∀ e b0 b w,Mk D b0 b->RQ n K e b0 w->Q' e b w):∀ (l:List Oper) (a0 a:Act) (w:World),Mk D a0 a->wpList P ops.toArray (RQ n K) l a0 w->wpList P ops.toArray Q' l a w
 |[],a0,a,w,h,H=>hq _ _ _ _ h H
 |o::r,a0,a,w,h,H=>by
  unfold wpList at H⊢
  rw [h.1]
  split at H
  ·rename_i hw
   rw [PI hw]
   rcases H with H|⟨_,H⟩
   ·refine .inl ?_
    unfold Oper.wp at H⊢
    rw [h.eval]
    exact IK h (λ b0 b w hb=>oo hq r b0 b w hb) hq zX H
   ·exact absurd H zX
  ·rename_i hw
   rw [M2 hw]
   exact oo hq r _ _ _ (h.put _ _) H
def kN (o:Oper):Bool:=match o.op with| .defer _=>false|_=>true
theorem zY {o:Oper} (h:kN o=true):∀ c,o.op≠.defer c:=λ c e=>by simp [kN,e] at h
abbrev OF (l:Nat):Fence:=Fence.wide.inRound l
theorem IL {o:Oper} {a:Act} {next next':Act->World->Prop} {Q:Exit->Act->World->Prop} {F:Fence} {m:Nat} (hF:F=Fence.wide\/∃ l,F=OF l) (hn:∀ b w,next b w->next' b w) {r:Result Next}
  (H:o.upon P a next Q r):o.uponIn F m P a next' Q r:=by
 have hd:F.depth=none:=by rcases hF with rfl|⟨l,rfl⟩<;>rfl
 have hdep:F.depth.isSome=true->1<=m:=by rw [hd];simp
 have hcall:∀ {f args w' R},Calls P f args w' R->CallsIn F (m-1) P f args w' R:=λ {f args w' R} h=>by
  rcases hF with rfl|⟨l,rfl⟩
  ·exact TI.2 h
  ·exact CallsIn.inRound l (TI.2 h)
 cases r with
 |ok x w'=>
  cases x with
  |value v=>exact hn _ _ H
  |skip=>exact hn _ _ H
  |defer d=>exact hn _ _ H
  |enter f args=>
   rw [Oper.upon_enter] at H
   rw [Oper.uponIn_enter]
   refine ⟨hdep,hcall (Rg H λ e w'' he=> ?_)⟩
   cases e with
   |returned v=>exact hn _ _ he
   |panicked c=>exact he
   |outgrown=>exact he
  |row row args=>
   rw [Oper.upon_row] at H
   rw [Oper.uponIn_row]
   refine ⟨hdep,λ c cs _=> ?_⟩
   obtain ⟨v,w'',hv,hs⟩:=H c cs
   refine ⟨v,w'',hn _ _ hv,?_⟩
   rcases hF with rfl|⟨l,rfl⟩
   ·exact stepsIn_wide.2 hs
   ·have:StepsIn (Machine.fenced P Fence.wide) P (lone (Frame.ofRow P row args .normal) (c::cs) w') (lone (c.finish v) cs w''):=stepsIn_wide.2 hs
    rwa [<-fenced_inRound P Fence.wide l] at this
  |_=>exact (H:False).elim
 |halt x w'=>
  cases x with
  |panic v=>exact H
  |_=>exact (H:False).elim
theorem qP {o:Oper} {a:Act} {next next':Act->World->Prop} {Q:Exit->Act->World->Prop} {F:Fence} {m:Nat} (hF:F=Fence.wide\/∃ l,F=OF l) (hd:kN o=true) (hn:∀ b w,next b w->next' b w)
  (H:o.wp P a w next Q):o.wpIn F m P a w next' Q:=by
 refine ⟨λ f _=>by rcases hF with rfl|⟨l,rfl⟩<;>trivial,?_⟩
 rw [Oper.semAt_eq _ _ _ (zY hd)]
 exact IL hF hn H
theorem jV {F:Fence} {m:Nat} (hF:F=Fence.wide\/∃ l,F=OF l):∀ (l:List Oper) (a:Act) (w:World),l.all kN=true->wpList P ops.toArray (RQ n K) l a w->wpListIn F m P ops.toArray (RQ n K) l a w
 |[],a,w,_,H=>H
 |o::r,a,w,hd,H=>by
  rw [List.all_cons,PY] at hd
  unfold wpList at H
  unfold wpListIn
  split at H
  ·rename_i hw
   rw [PI hw]
   rcases H with H|⟨_,H⟩
   ·exact qP hF hd.1 (λ b w hb=>jV hF r b w hd.2 hb) H
   ·exact absurd H zX
  ·rename_i hw
   rw [M2 hw]
   exact ⟨λ f _=>by rcases hF with rfl|⟨l,rfl⟩<;>trivial,jV hF r _ _ hd.2 H⟩
end
def CWR (l:Nat) (P:Program) (n:Nat) (c:Code) (Q:Qs) (L:aB) (w:World):Prop:=∀ a,Fits n L a->c.wpIn (OF l) 0 P (Lu n Q) a w
section
variable {lp:Nat} {P:Program} {n:Nat} {N R:aB->World->Prop} {X G:List (Nat×(aB->World->Prop))} {L:aB} {w:World}
theorem CWR.weaken {c:Code} {Q:Qs} (L':aB) (hw:Weak L' L) (h:CWR lp P n c Q L' w):CWR lp P n c Q L w:=λ a ha=>h a (ha.weaken hw)
theorem CWR.skip (h:N L w):CWR lp P n .skip ⟨N,R,X,G⟩ L w:=λ _ ha=>wpIn_skip ⟨L,ha,h⟩
theorem CWR.ret (h:R L w):CWR lp P n .ret ⟨N,R,X,G⟩ L w:=λ _ ha=>wpIn_ret ⟨L,ha,h⟩
theorem CWR.seq {x y:Code} (h:CWR lp P n x ⟨λ L w=>CWR lp P n y ⟨N,R,X,G⟩ L w,R,X,G⟩ L w):CWR lp P n (.seq x y) ⟨N,R,X,G⟩ L w:=λ a ha=>
 wpIn_seq (Tv (h a ha) λ e a' w' q=>by
  cases e<;>first|(obtain ⟨L',hL,hc⟩:=q;exact hc a' hL)|exact q)
theorem CWR.cond {c:Operand} {x y:Code} {b:Bool} (hc:aJ L c=some (.bool b)) (ht:b=true->CWR lp P n x ⟨N,R,X,G⟩ L w) (hf:b=false->CWR lp P n y ⟨N,R,X,G⟩ L w):CWR lp P n (.cond c x y) ⟨N,R,X,G⟩ L w:=
 λ a ha=>wpIn_cond_split (ha.eval hc) (λ h=>ht h a ha) (λ h=>hf h a ha)
theorem CWR.block {id:Nat} {c:Code} (h:CWR lp P n c ⟨N,R,(id,N)::X,G⟩ L w):CWR lp P n (.block id c) ⟨N,R,X,G⟩ L w:=λ a ha=>
 wpIn_block (Tv (h a ha) λ e a' w' q=>by
  cases e with
  |exit id'=>
   obtain ⟨L',hL,hc⟩:=q
   simp only [ew] at hc
   simp only [Exit.inBlock]
   by_cases hid:id'=id
   ·subst hid;rw [PI rfl] at hc⊢;exact ⟨L',hL,hc⟩
   ·rw [M2 hid];rw [M2 (λ e=>hid e.symm)] at hc;exact ⟨L',hL,hc⟩
  |normal=>exact q
  |ret=>exact q
  |goto l=>exact q
  |panic c=>exact q
  |outgrown=>exact q)
theorem CWR.region {id:Nat} {l:List Oper} (hd:l.all kN=true:=by rfl) (h:RT P n l l N L w):CWR lp P n (.region id l.toArray false) ⟨N,R,X,G⟩ L w:=λ a ha=>
 Tv (wpIn_region_lit (jV (.inr ⟨lp,rfl⟩) l a w hd (h a ha))) (RQ.lift (Q:=⟨N,R,X,G⟩))
end
def YieldV (P:Program) (l:Nat) (args:List Value) (w:World) (Φ:Bool->World->Prop):Prop:=
 YieldAt Fence.wide 0 P l args.toArray w λ e w'=>∃ b,e= .returned (.bool b)/\Φ b w'
def RTI (P:Program) (n:Nat) (ops:List Oper) (l:List Oper) (K:aB->World->Prop) (L:aB) (w:World):Prop:=
 ∀ a,Fits n L a->wpListIn Fence.wide 1 P ops.toArray (RQ n K) l a w
section
variable {P:Program} {n:Nat} {Q:Qs} {L:aB} {w:World} {K:aB->World->Prop} {ops:List Oper}
theorem RTI.nil (h:K L w):RTI P n ops [] K L w:=λ _ ha=>⟨L,ha,h⟩
theorem RTI.ev {o:Oper} {r:List Oper} {v:Value} (hg:o.guard=none) (hd:bP n o.dst=true) (he:Ev P n L w o v) (h:RTI P n ops r K (putK o.dst v L) w) (hnd:kN o=true:=by rfl):RTI P n ops (o::r) K L w:=λ a ha=>by
 unfold wpListIn
 rw [PI (by simp [Region.wanted,hg])]
 refine qP (.inl rfl) hnd (next:=wpListIn Fence.wide 1 P ops.toArray (RQ n K) r) (λ _ _ h=>h) ?_
 simp only [Oper.wp,he a ha,Oper.upon]
 exact h _ (ha.putK hd)
theorem RTI.yes {o:Oper} {r:List Oper} {j d:Nat} {b b':Bool} (hg:o.guard=some (j,b)) (hj:sR ops j=some d) (hb:look L d=some (.bool b')) (hbb:b'=b)
  (h:RTI P n ops ({o with guard:=none}::r) K L w):RTI P n ops (o::r) K L w:=λ a ha=>by
 subst hbb
 have h':=h a ha
 unfold wpListIn at h'⊢
 have:Region.wanted o (yielded ops.toArray a.tmps)=true:=by simp [Region.wanted,hg,ha.yielded hj hb]
 have h2:Region.wanted {o with guard:=none} (yielded ops.toArray a.tmps)=true:=by simp [Region.wanted]
 simp only [this,h2,RA] at h'⊢
 exact h'
theorem RTI.no {o:Oper} {r:List Oper} {j d:Nat} {b b':Bool} (hg:o.guard=some (j,b)) (hj:sR ops j=some d) (hb:look L d=some (.bool b')) (hne:b'= !b) (hd:bP n o.dst=true)
  (h:RTI P n ops r K (putK o.dst undef L) w):RTI P n ops (o::r) K L w:=λ a ha=>by
 have:Region.wanted o (yielded ops.toArray a.tmps)=false:=by
  simp only [Region.wanted,hg,ha.yielded hj hb]
  subst hne;cases b<;>simp
 unfold wpListIn
 rw [this]
 exact ⟨λ _ _=>trivial,h _ (ha.putK hd)⟩
theorem RTI.yield {d:Option Nat} {t:Nat} {xs:List Operand} {ats:Array TypeId} {ty:TypeId} {pos:String} {af:Array Edge} {r:List Oper} {l:Nat} {vs:List Value}
  (hd:bP n d=true) (ht:look L t=some (.func (.yield l) #[] #[])) (hx:aJ L (.tmp t)=some (.func (.yield l) #[] #[])) (hxs:ow L xs=some vs)
  (h:YieldV P l vs w λ b w'=>RTI P n ops r K (putK d (.bool b) L) w'):RTI P n ops (⟨d,.call ⟨.value (.tmp t),xs.toArray,ats⟩,ty,pos,af,none⟩::r) K L w:=λ a ha=>by
 obtain ⟨fn,tmps,assign,body,hy,hR⟩:=h
 have he:=ha.z8 hxs
 have hv:a.eval (.tmp t)= .func (.yield l) #[] #[]:=ha.eval hx
 have hm:xs.toArray.map a.eval=vs.toArray:=by simp [he]
 have hrun:(execOp a.eval ⟨d,.call ⟨.value (.tmp t),xs.toArray,ats⟩,ty,pos,af,none⟩).run P w= .ok (.round l fn tmps assign body) w:=by
  have he2:(#[]:Array Value)++vs.toArray=vs.toArray:=by simp
  simp only [execOp,resolve,hm,hv,Deferred.ofValue,bind,Sem.bind,pure,invoke,he2,Array.append_empty]
  simpa only [Sem.run] using hy
 unfold wpListIn
 rw [PI (by simp [Region.wanted])]
 refine ⟨λ _ _=>trivial,?_⟩
 rw [show Fence.wide.round=none from rfl,Oper.semAt_none,hrun,Oper.uponIn_round]
 refine ⟨λ h=>(by cases h),RoundIn.mono hR ?_⟩
 rintro e w' ⟨b,rfl,hb⟩
 exact hb _ (ha.putK hd)
theorem CW.wN {id:Nat} {l:List Oper} {N R:aB->World->Prop} {X G:List (Nat×(aB->World->Prop))} (h:RTI P n l l N L w):CW P n (.region id l.toArray false) ⟨N,R,X,G⟩ L w:=λ a ha=>
 wpIn_wide.1 (Tv (wpIn_region_lit (h a ha)) (RQ.lift (Q:=⟨N,R,X,G⟩)))
end
def ei (l:Nat) (r:Loop):Chunk where
 foot:=[l]
 holds w:=w.heap[l]? =some (.loop r)
 stable w w' h hc:=by rw [h l (by simp)];exact hc
def gV (b:Nat) (ds:Option (List Deferred)):Chunk where
 foot:=[b]
 holds w:=w.heap[b]? =some (.deferred ds)
 stable w w' h hc:=by rw [h b (by simp)];exact hc
theorem qQ {w:World} {b:Nat} {o:Obj} (o':Obj) (hb:w.heap[b]? =some o):Chg [b] w (w.putObj b o'):=kM o' hb
theorem Sat.qq {w0 w:World} {cs:List Chunk} (h:Sat w0 cs w) (i:Nat) {l:Nat} {r:Loop} (r':Loop) (hi:cs[i]? =some (ei l r)):Sat w0 (cs.set i (ei l r')) (w.putObj l (.loop r')):=
 h.set i hi (qQ _ (h.get hi)) (World.putObj_heap_same (Rx.1 (h.get hi)).1) (λ _ hk=> .inl hk)
theorem Sat.HI {w0 w:World} {cs:List Chunk} (h:Sat w0 cs w) (i:Nat) {b:Nat} {ds:Option (List Deferred)} (ds':Option (List Deferred)) (hi:cs[i]? =some (gV b ds)):Sat w0 (cs.set i (gV b ds')) (w.putObj b (.deferred ds')):=
 h.set i hi (qQ _ (h.get hi)) (World.putObj_heap_same (Rx.1 (h.get hi)).1) (λ _ hk=> .inl hk)
def F8 {α:Type} (P:Program) (gf:FuncId) (cb:List Value) (enc:α->List Value) (us:List α) (own:List Chunk) (w0:World):Prop:=
 ∀ (G:Type) (l:Nat) (C X:List α->G->List Chunk) (ds:List Chunk) (w:World) (g0:G),Sat w0 (own++(C [] g0++ds)) w->
  (∀ done u rest w2 es g,us=done++u::rest->Sat w0 (C done g++es) w2->
   YieldV P l (enc u) w2 λ b w3=>(b=true/\∃ g',Sat w0 (C (done++[u]) g'++es) w3)\/(b=false/\∃ g',Sat w0 (X (done++[u]) g'++es) w3))->
  CallsV P gf (.func (.yield l) #[] #[]::cb) w λ _ w'=>(∃ g,Sat w0 (own++(C us g++ds)) w')\/∃ done u rest g,us=done++u::rest/\Sat w0 (own++(X (done++[u]) g++ds)) w'
theorem Sat.swap {w0 w:World} {A B D:List Chunk} (h:Sat w0 (A++(B++D)) w):Sat w0 (B++(A++D)) w:=
 h.perm (by rw [<-LW,<-LW];exact Ta D Su)
theorem YieldV.mono {P:Program} {l:Nat} {args:List Value} {w:World} {Φ Ψ:Bool->World->Prop} (h:YieldV P l args w Φ) (hk:∀ b w',Φ b w'->Ψ b w'):YieldV P l args w Ψ:=by
 obtain ⟨fn,tmps,assign,body,hy,hR⟩:=h
 exact ⟨fn,tmps,assign,body,hy,RoundIn.mono hR λ e w' ⟨b,he,hb⟩=>⟨b,he,hk b w' hb⟩⟩
def CT (P:Program) (n:Nat) (c:Code) (M:Exit->Act->World->Prop) (L:aB) (w:World):Prop:=∀ a,Fits n L a->c.wp P M a w
theorem CT.seq {P:Program} {n:Nat} {x y:Code} {M:Exit->Act->World->Prop} {L:aB} {w:World} (h:CW P n x ⟨λ L w=>CT P n y M L w,λ _ _=>False,[],[]⟩ L w):CT P n (.seq x y) M L w:=λ a ha=>
 wp_seq (SG (h a ha) λ e a' w' q=>by
  cases e with
  |normal=>obtain ⟨L',hL,hc⟩:=q;exact hc a' hL
  |ret=>obtain ⟨L',hL,hc⟩:=q;exact hc.elim
  |exit id=>obtain ⟨L',hL,hc⟩:=q;exact (hc:False).elim
  |goto l=>obtain ⟨L',hL,hc⟩:=q;exact (hc:False).elim
  |panic c=>exact (q:False).elim
  |outgrown=>exact (q:False).elim)
def CB (P:Program) (n:Nat) (x y:Code) (M:Exit->Act->World->Prop) (L:aB) (w:World):Prop:=∀ a,Fits n L a->x.wp P (Exit.then (y.wp P M) M) a w
theorem CT.Ox {P:Program} {n:Nat} {x y z:Code} {M:Exit->Act->World->Prop} {L:aB} {w:World} (h:CW P n x ⟨λ L w=>CB P n y z M L w,λ _ _=>False,[],[]⟩ L w):CT P n (.seq (.seq x y) z) M L w:=λ a ha=>
 wp_seq (wp_seq (SG (h a ha) λ e a' w' q=>by
  cases e with
  |normal=>obtain ⟨L',hL,hc⟩:=q;exact hc a' hL
  |ret=>obtain ⟨L',hL,hc⟩:=q;exact hc.elim
  |exit id=>obtain ⟨L',hL,hc⟩:=q;exact (hc:False).elim
  |goto l=>obtain ⟨L',hL,hc⟩:=q;exact (hc:False).elim
  |panic c=>exact (q:False).elim
  |outgrown=>exact (q:False).elim))
def qR (P:Program) (n:Nat) (fn:Func) (Φ:Value->World->Prop):Exit->Act->World->Prop:=bodyPostM Fence.wide 1 P fn (OS Φ)
theorem n4 {P:Program} {f:FuncId} {fn:Func} {c:Code} {args:List Value} {w:World} {Φ:Value->World->Prop} (hf:P.funcs[f]? =some fn) (hb:fn.body=some c) (hn:Nat.ble args.length fn.ntmps=true)
  (h:CT P fn.ntmps c (qR P fn.ntmps fn Φ) (initK args 0) w):CallsV P f args w Φ:=by
 refine (TI (n:=1)).1 (callsIn_of_wp_marks hf hb trivial (wpIn_wide.2 (h _ ⟨?_,?_,rfl⟩)))
 ·have:=Qe hn;simp;omega
 ·intro t v hv
  obtain ⟨_,h2⟩:=mm args 0 t v hv
  simp only [Sz] at h2
  rw [Tj]
  have hlt:t<args.length:=by
   rcases Q1 t args.length with h|h
   ·exact h
   ·simp [Q3 h] at h2
  simp [hlt] at h2⊢
  exact h2
theorem qS {P:Program} {n:Nat} {fn:Func} {Φ:Value->World->Prop} {D:Nat} {a:Act} {L:aB} {w:World} (hF:Fits n L {a with defers:=[]}) (hd:a.defers=[{target:= .collected D,args:= #[]}])
  (hD:w.heap[D]? =some (.deferred (some []))) (hp:aL P n fn Φ L (w.putObj D (.deferred none))):qR P n fn Φ .ret a w:=by
 obtain ⟨v,hv,hΦ⟩:=hp _ hF
 show LeavesInM Fence.wide 1 P fn a.tmps (OS Φ) a.defers .returning w
 rw [hd]
 refine ⟨by simp,.inl ⟨_,_,rfl,run_takeDeferred hD,?_⟩⟩
 exact ⟨v,hv,v,rfl,hΦ⟩
theorem xG {α G:Type} {P:Program} {n:Nat} {fn:Func} {Φ:Value->World->Prop} {bid t p rid:Nat} {assign body:Code} {l:List Oper} {gf:FuncId} {cap:Array Value} {w0 w:World} {L:aB}
  {enc:α->Value} {us:List α} {own cs:List Chunk} (UC UX:List α->G->List Chunk) (K3:α->Nat->aB) (UA:List α->G->α->Nat->List Chunk) (g0:G)
  (ht:look L t=some (.func (.func gf) #[] cap)) (hp:Nat.ble (p+1) n=true) (hf:Enters P gf) (h0:Sat w0 (UC [] g0++(own++cs)) w)
  (hit:F8 P gf cap.toList (λ u=>[enc u]) us own w0)
  (hass:∀ lp done u rest w2 ds g,us=done++u::rest->Sat w0 (UC done g++ds) w2->CWR lp P n assign ⟨λ L3 w3=>∃ b,Weak (K3 u b) L3/\Sat w0 (UA done g u b++ds) w3,λ _ _=>False,[],[]⟩ ((p,enc u)::L) w2)
  (hbody:∀ lp done u rest b w2 ds g,us=done++u::rest->Sat w0 (UA done g u b++ds) w2->CWR lp P n body ⟨λ _ w3=>∃ g',Sat w0 (UC (done++[u]) g'++ds) w3,λ _ w3=>∃ g',Sat w0 (UX (done++[u]) g'++ds) w3,[],[]⟩ (K3 u b) w2)
  (hdone:∀ D w2 g,Sat w0 (UC us g++((own++cs)++[gV D (some [])])) w2->RT P n l l (λ L' w'=>∃ cs',Sat w0 (cs'++[gV D (some [])]) w'/\∀ w'',Sat w0 (cs'++[gV D none]) w''->aL P n fn Φ L' w'') L w2)
  (hstop:∀ done u rest D w2 g,us=done++u::rest->Sat w0 (UX (done++[u]) g++((own++cs)++[gV D none])) w2->aL P n fn Φ L w2):
  CB P n (.block bid (.rangeFunc (.tmp t) #[p] assign body)) (.seq (.region rid l.toArray false) .ret) (qR P n fn Φ) L w:=by
 intro a ha
 have hd0:a.defers=[]:=ha.defers
 have hmark:∀ (D:Nat) (a':Act),a'={a with defers:=[{target:= .collected D,args:= #[]}]++a.defers}->Mk [{target:= .collected D,args:= #[]}] a a':=λ D a' e=>by
  subst e;exact ⟨rfl,by simp [hd0]⟩
 have hend:∀ (D:Nat) (w4:World) g,Sat w0 (UC us g++((own++cs)++[gV D (some [])])) w4->
   (Code.seq (.region rid l.toArray false) .ret).wp P (qR P n fn Φ) {a with defers:=[{target:= .collected D,args:= #[]}]++a.defers} w4:=λ D w4 g hs4=>by
  refine wp_seq (wp_region_list ?_)
  have hw:=hdone D w4 g hs4 a ha
  refine oo (D:=[{target:= .collected D,args:= #[]}]) ?_ _ a _ _ (hmark D _ rfl) (by simpa using hw)
  rintro e b0 b w5 hb hq
  cases e with
  |normal=>
   obtain ⟨L',hL',cs',hs',hpost⟩:=hq
   refine wp_ret ?_
   have hget:w5.heap[D]? =some (.deferred (some [])):=(hs'.holds (gV D (some [])) (by simp)).1
   have hD':(cs'++[gV D (some [])])[cs'.length]? =some (gV D (some [])):=by simp
   have hset:=hs'.HI cs'.length none hD'
   rw [Qq _ _ (KB _),Qp] at hset
   refine qS (D:=D) (L:=L') ⟨by rw [hb.1];exact hL'.size,λ t v hv=>by show b.tmps[t]? =_;rw [hb.1];exact hL'.slot t v hv,rfl⟩ (by rw [hb.2,hL'.defers];rfl) hget (hpost _ hset)
  |_=>exact (hq:False).elim
 have hstop':∀ (D:Nat) (w4:World) done u rest g,us=done++u::rest->Sat w0 (UX (done++[u]) g++((own++cs)++[gV D (some [])])) w4->
   qR P n fn Φ .ret {a with defers:=[{target:= .collected D,args:= #[]}]++a.defers} w4:=λ D w4 done u rest g hu hs4=>by
  have hget:w4.heap[D]? =some (.deferred (some [])):=(hs4.holds (gV D (some [])) (by simp)).1
  have hs5:Sat w0 ((UX (done++[u]) g++(own++cs))++[gV D (some [])]) w4:=by rw [LW];exact hs4
  have hset:=hs5.HI (b:=D) (ds:=some []) (UX (done++[u]) g++(own++cs)).length none (by simp)
  rw [Qq _ _ (KB _),Qp,LW] at hset
  exact qS (D:=D) (L:=L) ⟨ha.size,ha.slot,rfl⟩ (by rw [hd0];rfl) hget (hstop done u rest D _ g hu hset)
 refine (wp_block (wpIn_wide (n:=1)|>.1 (wpIn_rangeFunc ?_)))
 intro f0 _
 obtain ⟨rec,hrec⟩:∃ rec:LoopState->Option Code->Loop,rec=λ st pe=>{state:=st,pending:=pe,fn:=f0,tmps:=a.tmps,params:= #[p],assign,body,defers:=w.heap.size}:=⟨_,rfl⟩
 have hW1:Sat w0 ((UC [] g0++(own++cs))++[gV w.heap.size (some [])]) (w.alloc (.deferred (some []))):=h0.add (.alloc _ _) (RE w _) (by simp [gV])
 have hW2:Sat w0 (((UC [] g0++(own++cs))++[gV w.heap.size (some [])])++[ei (w.heap.size+1) (rec .ready none)]) ((w.alloc (.deferred (some []))).alloc (.loop (rec .ready none))):=by
  have:=hW1.add (c:=ei (w.heap.size+1) (rec .ready none)) (.alloc (w.alloc (.deferred (some []))) (.loop (rec .ready none))) (by have:=RE (w.alloc (.deferred (some []))) (.loop (rec .ready none));rwa [World.size_alloc] at this) (by simp [ei])
  exact this
 obtain ⟨W2,hW⟩:∃ W2,(w.alloc (.deferred (some []))).alloc (.loop (rec .ready none))=W2:=⟨_,rfl⟩
 rw [hW] at hW2
 have hperm:Sat w0 (own++((UC [] g0++[ei (w.heap.size+1) (rec .ready none)])++(cs++[gV w.heap.size (some [])]))) W2:=by
  refine Sat.swap (hW2.perm ?_)
  rw [LW,LW,LW,LW]
  refine Rk _ ?_
  rw [<-LW,<-LW,<-LW,LW own]
  exact Su
 refine ⟨w.heap.size+1,[{target:= .collected w.heap.size,args:= #[]}],W2,{target:= .fn (.func gf) cap,args:= #[.func (.yield (w.heap.size+1)) #[] #[]]},W2,gf,
  #[.func (.yield (w.heap.size+1)) #[] #[]]++cap,W2,?_,?_,?_,?_,λ _=>KB _,?_⟩
 ·rw [<-hW,hrec];exact run_enterLoop_outer _ _ _ _ _
 ·have hg:a.eval (.tmp t)= .func (.func gf) #[] cap:=ha.eval (show aJ L (.tmp t)=_ from ht)
  simp only [resolve,hg]
  simp [go_sem]
 ·intro f' _;trivial
 ·simp [invoke,go_sem]
  exact hf _ _
 ·have hI:=hit G (w.heap.size+1) (λ done g=>UC done g++[ei (w.heap.size+1) (rec .ready none)])
   (λ done g=>UX done g++[ei (w.heap.size+1) (rec .done (some .ret))]) (cs++[gV w.heap.size (some [])]) W2 g0 hperm ?_
  ·have hcall:Calls P gf (.func (.yield (w.heap.size+1)) #[] #[]::cap.toList).toArray W2 _:=hI
   have hargs:(.func (.yield (w.heap.size+1)) #[] #[]::cap.toList).toArray= #[.func (.yield (w.heap.size+1)) #[] #[]]++cap:=by simp
   rw [hargs] at hcall
   refine TI.2 (Rg hcall ?_)
   rintro e w3 ⟨v,rfl,hs3⟩
   rcases hs3 with ⟨g,hs3⟩|⟨done,u,rest,g,hu,hs3⟩
   ·replace hs3:=hs3.swap
    rw [<-LW own] at hs3
    have hm:ei (w.heap.size+1) (rec .ready none)∈(UC us g++[ei (w.heap.size+1) (rec .ready none)])++((own++cs)++[gV w.heap.size (some [])]):=by simp
    have hl:=(hs3.holds _ hm).1
    refine ⟨none,w3.putObj (w.heap.size+1) (.loop {rec .ready none with state:= .exhausted}),?_,?_⟩
    ·have:=run_endLoop (P:=P) hl (by rw [hrec];simp)
     have hp:(rec .ready none).pending=none:=by rw [hrec]
     exact this.trans (by subst hrec;rfl)
    ·refine hend w.heap.size _ g ?_
     have hs4:=hs3.qq (l:=w.heap.size+1) (r:=rec .ready none) (UC us g).length {rec .ready none with state:= .exhausted} (by simp)
     rw [LW,Qq _ _ (KB _),Qp] at hs4
     exact hs4.sub (List.Sublist.append (TB _) (TQ _ _))
   ·replace hs3:=hs3.swap
    rw [<-LW own] at hs3
    have hm:ei (w.heap.size+1) (rec .done (some .ret))∈(UX (done++[u]) g++[ei (w.heap.size+1) (rec .done (some .ret))])++((own++cs)++[gV w.heap.size (some [])]):=by simp
    have hl:=(hs3.holds _ hm).1
    refine ⟨some .ret,w3.putObj (w.heap.size+1) (.loop {rec .done (some .ret) with state:= .exhausted}),?_,?_⟩
    ·have:=run_endLoop (P:=P) hl (by rw [hrec];simp)
     have hp:(rec .done (some .ret)).pending=some .ret:=by rw [hrec]
     exact this.trans (by subst hrec;rfl)
    ·refine wpIn_ret ?_
     refine hstop' w.heap.size _ done u rest g hu ?_
     have hs4:=hs3.qq (l:=w.heap.size+1) (r:=rec .done (some .ret)) (UX (done++[u]) g).length {rec .done (some .ret) with state:= .exhausted} (by simp)
     rw [LW,Qq _ _ (KB _),Qp] at hs4
     exact hs4.sub (List.Sublist.append (TB _) (TQ _ _))
  ·intro done u rest w2 es g hu hs2
   have hm:ei (w.heap.size+1) (rec .ready none)∈(UC done g++[ei (w.heap.size+1) (rec .ready none)])++es:=by simp
   have hl:=(hs2.holds _ hm).1
   have hy:=run_yield (P:=P) (args:= #[enc u]) hl (by rw [hrec];rfl)
   rw [hrec] at hy
   refine ⟨f0,_,assign,body,hy,roundIn_of_wpIn trivial ?_⟩
   have hF1:Fits n ((p,enc u)::L) {tmps:=(#[p].zip #[enc u]).foldl (λ t (p,v)=>t.setIfInBounds p v) a.tmps,defers:=[]}:=by
    have:=ha.put (d:=p) (v:=enc u) (Qe hp)
    exact ⟨by simpa [Act.put] using this.size,λ t v hv=>by have:=this.slot t v hv;simpa [Act.put] using this,rfl⟩
   refine Tv (hass (w.heap.size+1) done u rest w2 ([ei (w.heap.size+1) (rec .ready none)]++es) g hu (by rw [<-LW];exact hs2) _ hF1) ?_
   rintro e a3 w3 hq
   cases e with
   |normal=>
    obtain ⟨L3,hL3,b,hK3,hs3⟩:=hq
    have hm3:ei (w.heap.size+1) (rec .ready none)∈UA done g u b++([ei (w.heap.size+1) (rec .ready none)]++es):=by simp
    have hl3:=(hs3.holds _ hm3).1
    have hs4:=hs3.qq (l:=w.heap.size+1) (r:=rec .ready none) (UA done g u b).length {rec .ready none with state:= .busy} (by simp)
    rw [Qq _ _ (KB _),Qp] at hs4
    refine ⟨_,run_beginRound hl3 (by rw [hrec]),?_⟩
    refine Tv (hbody (w.heap.size+1) done u rest b _ ([ei (w.heap.size+1) {rec .ready none with state:= .busy}]++es) g hu hs4 a3 (hL3.weaken hK3)) ?_
    rintro e2 a5 w5 hq5
    have fin:∀ (jump:Option Code) (Y:List Chunk),Sat w0 (Y++([ei (w.heap.size+1) {rec .ready none with state:= .busy}]++es)) w5->
      ∃ w6,(Instr.endRound (w.heap.size+1) jump).run P w5= .ok (.bool jump.isNone) w6/\Sat w0 ((Y++[ei (w.heap.size+1) (rec (if jump.isNone then .ready else .done) jump)])++es) w6:=λ jump Y hY=>by
     have hl5:=(hY.holds (ei (w.heap.size+1) {rec .ready none with state:= .busy}) (by simp)).1
     have hs6:=hY.qq (l:=w.heap.size+1) (r:={rec .ready none with state:= .busy}) Y.length {({rec .ready none with state:= .busy}:Loop) with state:=if jump.isNone then .ready else .done,pending:=jump} (by simp)
     rw [Qq _ _ (KB _),Qp] at hs6
     refine ⟨_,run_endRound (P:=P) jump hl5,?_⟩
     rw [LW]
     rw [hrec] at hs6⊢
     exact hs6
    cases e2 with
    |normal=>
     obtain ⟨L5,_,g5,hs5⟩:=hq5
     obtain ⟨w6,h6,hs6⟩:=fin none _ hs5
     exact ⟨_,w6,h6,true,rfl,.inl ⟨rfl,g5,hs6⟩⟩
    |ret=>
     obtain ⟨L5,_,g5,hs5⟩:=hq5
     obtain ⟨w6,h6,hs6⟩:=fin (some .ret) _ hs5
     exact ⟨_,w6,h6,false,rfl,.inr ⟨rfl,g5,hs6⟩⟩
    |exit id=>obtain ⟨L5,_,hs5⟩:=hq5;exact (hs5:False).elim
    |goto t=>obtain ⟨L5,_,hs5⟩:=hq5;exact (hs5:False).elim
    |panic c=>exact (hq5:False).elim
    |outgrown=>exact (hq5:False).elim
   |ret=>obtain ⟨L3,_,h⟩:=hq;exact h.elim
   |exit id=>obtain ⟨L3,_,h⟩:=hq;exact (h:False).elim
   |goto t=>obtain ⟨L3,_,h⟩:=hq;exact (h:False).elim
   |panic c=>exact (hq:False).elim
   |outgrown=>exact (hq:False).elim
def iK (p:Prop):Chunk:=⟨[],λ _=>p,λ _ _ _ h=>h⟩
theorem Sat.pure {w0 w:World} {cs:List Chunk} {p:Prop} (h:Sat w0 cs w) (hp:p):Sat w0 (iK p::cs) w:=
 ⟨h.old,λ c hc=>by
  rcases PR.1 hc with rfl|hc
  ·exact ⟨hp,λ k hk=>(by cases hk)⟩
  ·exact h.holds c hc,Qd.2 ⟨λ d _ k hk=>(by cases hk),h.apart⟩⟩
theorem Sat.Hz {w0 w:World} {cs:List Chunk} {p q:Prop} (h:Sat w0 (iK p::cs) w) (hq:p->q):Sat w0 (iK q::cs) w:=
 (h.sub (TQ _ _)).pure (hq (h.holds (iK p) (QD ..)).1)
theorem Sat.wK {w0 w:World} {cs:List Chunk} {p:Prop} (h:Sat w0 (iK p::cs) w):p:=(h.holds (iK p) (QD ..)).1
section
variable {P:Program} {n:Nat} {L:aB} {w:World} {d:Option Nat} {ty:TypeId} {pos:String} {af:Array Edge} {g:Option (Nat×Bool)}
theorem Ev.uJ {x y:Operand} {f:FuncId} {v u:Value} (hx:aJ L x=some v) (hy:aJ L y=some u):Ev P n L w ⟨d,.makeFunc (.func f) #[] #[x,y],ty,pos,af,g⟩ (.func (.func f) #[] #[v,u]):= .of λ ρ hρ=>by
 simp [execOp,hρ hx,hρ hy,Instr.makeFunc,go_sem]
end
def jF:Enc Un:=⟨3,λ u=>[.int .i32 (u.r:Int),.int .i64 (u.at_:Int),.int .i64 (u.size:Int)],λ _=>rfl,λ x v h=>by
 simp only [PR,PU,Q9] at h;rcases h with rfl|rfl|rfl<;>rfl⟩
theorem sJ (s:ByteArray):s.data.toList.length=s.size:=QU
theorem iL {s:ByteArray} {i:Nat} (h:i<s.size):cY s.data.toList i=⟨(dec (s.data.toList.drop i)).1,i,i+(dec (s.data.toList.drop i)).2-i⟩::cY s.data.toList (i+(dec (s.data.toList.drop i)).2):=by
 rw [gB (by rw [sJ];exact h),QG]
theorem dP {s:ByteArray} {i:Nat} (h:i<s.size):i+(dec (s.data.toList.drop i)).2<=s.size:=by
 have:=xT (s:=s.data.toList) (i:=i) (by rw [sJ];exact h)
 rwa [sJ] at this
theorem pW {s:ByteArray} {i:Nat} (h:s.size<=i):cY s.data.toList i=[]:=fc (by rw [sJ];exact h)
section
variable {P:Program} {n:Nat} {N R:aB->World->Prop} {X G:List (Nat×(aB->World->Prop))} {L:aB} {w:World}
theorem CW.Hy {l:Nat} {J:aB->World->Prop} (h:J L w):CW P n (.goto l) ⟨N,R,X,(l,J)::G⟩ L w:=CW.OA (by simp only [ew,PI];exact h)
theorem CW.scope {c rest:Code} (l:Nat) (J:aB->World->Prop) (hf:findLabel c l=some rest) (h:CW P n c ⟨N,R,X,[(l,J)]⟩ L w) (pass:∀ L' w',J L' w'->CW P n rest ⟨N,R,X,[]⟩ L' w'):CW P n (.scope c) ⟨N,R,X,[]⟩ L w:=λ a ha=>by
 refine wp_scope_jumps l (λ a w=>∃ L,Fits n L a/\J L w) (λ _ _=>0) hf (SG (h a ha) λ e a' w' q=> ?_) λ a w hJ=> ?_
 ·cases e with
  |goto l'=>
   obtain ⟨L',hL,hq⟩:=q
   simp only [ew] at hq
   by_cases e:l=l'
   ·subst e;rw [PI rfl] at hq;exact ⟨rfl,L',hL,hq⟩
   ·rw [M2 e] at hq;exact hq.elim
  |normal=>exact q
  |ret=>exact q
  |exit id=>exact q
  |panic c=>exact q
  |outgrown=>exact q
 ·obtain ⟨L',hL,hJ⟩:=hJ
  refine SG (pass L' w hJ a hL) λ e a' w' q=> ?_
  cases e with
  |goto l'=>obtain ⟨L',hL,hq⟩:=q;exact (hq:False).elim
  |normal=>exact q
  |ret=>exact q
  |exit id=>exact q
  |panic c=>exact q
  |outgrown=>exact q
end
section
variable {P:Program} {n:Nat} {L:aB} {w w0:World} {cs:List Chunk} {K:Value->World->Prop} {d:Option Nat} {ty:TypeId} {pos:String} {af:Array Edge} {g:Option (Nat×Bool)}
theorem Ev.HM {T:TypeId} {pl:List (Nat×Nat)} {zs out:List Value} {parts:List (Nat×Operand)} {vs:List (Nat×Value)} (hb:BuildTy P T pl zs) (hp:cW L parts=some vs) (ho:Instr.fill (λ i=>pl.toArray[i]?) zs.toArray vs=some out.toArray):
  Ev P n L w ⟨d,.build T parts.toArray,ty,pos,af,g⟩ (.agg out.toArray):= .of λ ρ hρ=>by
 have he:∀ (parts:List (Nat×Operand)) (vs:List (Nat×Value)),cW L parts=some vs->parts.map (λ (i,x)=>(i,ρ x))=vs:=by
  intro parts
  induction parts with
  |nil=>intro vs h;simp [cW] at h;simp [h]
  |cons p r ih=>
   intro vs h
   obtain ⟨i,x⟩:=p
   simp only [cW,Rr,QI] at h
   obtain ⟨v,hv,us,hus,rfl⟩:=h
   simp [hρ hv,ih us hus]
 obtain ⟨fs,hu,hpl⟩:=hb.und
 have hz:=hb.zero
 cases hi:P.info? T with
 |none=>simp [hi] at hz
 |some inf=>
  simp [hi] at hz
  have hrun:(Instr.build T vs.toArray).run P w= .ok (.agg out.toArray) w:=by
   simp only [Instr.build,zeroValue,typeInfo,PS]
   simp [hi,hz,PN hu]
   have:=hpl w
   simp at this
   have hfill':Instr.fill (λ x=>pl[x]?) zs.toArray vs=some out.toArray:=by simpa using ho
   simp [this,Value.cells,hfill']
  simp only [execOp]
  rw [show (parts.toArray.map λ (i,x)=>(i,ρ x))=vs.toArray by rw [RC,he parts vs hp]]
  simp only [PS,hrun,PL,PZ]
end
section
variable {P:Program} {n:Nat} {L:aB} {w:World} {d:Option Nat} {x y:Operand} {xt yt ty:TypeId} {g:Option (Nat×Bool)} {k:IntKind}
theorem Ev.Oi {pos:String} {af:Array Edge} {a b:Nat} (hx:aJ L x=some (.int k (a:Int))) (hy:aJ L y=some (.int k (b:Int))) (hk:k.signed=false) (hb:0<b) (h:a<2^k.bits):Ev P n L w ⟨d,.binOp .quo xt x y yt,ty,pos,af,g⟩ (.int k ((a/b:Nat):Int)):=
 .bin hx hy (Qj ..) λ w=>by
  have h0:(b:Int)≠0:=by omega
  have h1:((a:Int).tdiv (b:Int))=((a/b:Nat):Int):=by rw [Int.tdiv_eq_ediv_of_nonneg (by omega)];simp
  have h2:k.wrap ((a/b:Nat):Int)=((a/b:Nat):Int):=oy hk (SR (QH a b) h)
  simp only [binOp,Op.intDiv,h0,QP,h1,h2,go_sem]
  simp [go_sem]
theorem Ev.fH {w0:World} {cs:List Chunk} {pos:String} {af:Array Edge} {T i b:Nat} {U:TypeId} {cells:List Value} {m:Nat} (hT:dE P T m=true) (hx:aJ L x=some (.pointer (some ⟨b,0,none⟩))) (hs:Sat w0 cs w) (hi:cs[i]? =some (aq b U cells)) (hm:cells.length=m):
  Ev P n L w ⟨d,.load T x,ty,pos,af,g⟩ (.agg cells.toArray):= .of λ ρ hρ=>by
 subst hm
 have hl:=RF (P:=P) w ⟨b,0,none⟩ cells (λ q u hu=>by rw [Qu,Qa];exact hs.cell hi hu)
 have hag:(isAgg T).run P w= .ok true w:=by
  unfold dE at hT
  cases hun:P.underlying T with
  |none=>simp [hun] at hT
  |some D=>cases D<;>simp [hun] at hT<;>simp [isAgg,PN hun,go_sem]
 have hsz:(sizeOf T).run P w= .ok cells.length w:=by
  unfold dE at hT
  cases hin:P.info? T with
  |none=>simp [hin] at hT
  |some inf=>simp [hin] at hT;simp [sizeOf,typeInfo,hin,hT.2,go_sem]
 have hld:(Instr.loadAt T (ρ x)).run P w= .ok (.agg cells.toArray) w:=by
  simp only [Instr.loadAt,loadVar,hρ hx,Instr.sureAddr,PS,PZ,PL,hag,hsz,hl,RA]
 simp only [execOp,PS,hld,PL,PZ]
end
section
variable {α:Type} {E:Enc α} {P:Program} {n:Nat} {L:aB} {w w0:World} {cs:List Chunk} {K:Value->World->Prop} {d:Option Nat} {ty:TypeId} {pos:String} {af:Array Edge} {g:Option (Nat×Bool)}
theorem F9 {l:List α} {j off:Nat} {a a':α} {u:Value} (ha:l[j]? =some a) (he:E.enc a'=(E.enc a).set off u) (ho:off<E.s):(E.all l).set (j*E.s+off) u=E.all (l.set j a'):=by
 have hj:j<l.length:=(AT.1 ha).1
 have e1:l=l.take j++a::l.drop (j+1):=by
  have:=(AT.1 ha).2
  conv=>lhs;rw [<-Qc j l,QL hj,this]
 have e2:l.set j a'=l.take j++a'::l.drop (j+1):=by
  rw [QX];simp [hj]
 have hl:(E.all (l.take j)).length=j*E.s:=by rw [E.all_length];simp;rw [Qk (by omega)]
 rw [e2,E.all_append,E.all_cons,he]
 conv=>lhs;rw [e1,E.all_append,E.all_cons]
 rw [Qq _ _ (by omega),hl,QG,Tr _ _ (by rw [E.len];exact ho)]
theorem OpE.j5 {x y:Operand} {T e j off:Nat} {v u:Value} {l:List α} {a:α} (i:Nat) (a':α) (hT:(P.info? T).map (·.size)=some 1) (hs:Sat w0 cs w) (hi:cs[i]? =some (cL v e E l)) (hx:aJ L x=some (bH v (j*E.s+off)))
  (hy:aJ L y=some u) (h1:u.oneCell'=true) (ha:l[j]? =some a) (he:E.enc a'=(E.enc a).set off u) (ho:off<E.s) (hk:∀ w',Sat w0 (cs.set i (cL v e E (l.set j a'))) w'->Chg (bM v) w w'->K undef w'):OpE P n L w ⟨d,.store T x y,ty,pos,af,g⟩ K:=by
 have hj:j<l.length:=(AT.1 ha).1
 have hlt:j*E.s+off<(E.all l).length:=by
  rw [E.all_length]
  have:(j+1)*E.s<=l.length*E.s:=R0 _ hj
  rw [Qx,RJ] at this;omega
 refine OpE.Cb hT hs hi hx hy h1 (py hlt) λ w' hS hC=>hk w' ?_ hC
 rw [F9 ha he ho] at hS
 unfold cL
 rw [PJ];exact hS
end
structure RU where
 r:Nat
 at_:Nat
 size:Nat
 ok:Bool
def jA:Enc RU:=⟨4,λ u=>[.int .i32 (u.r:Int),.int .i64 (u.at_:Int),.int .i64 (u.size:Int),.bool u.ok],λ _=>rfl,λ x v h=>by
 simp only [PR,PU,Q9] at h;rcases h with rfl|rfl|rfl|rfl<;>rfl⟩
def kO (u:Un):RU:=⟨u.r,u.at_,u.size,false⟩
def sP (u:Un):RU:=⟨u.r,u.at_,u.size,u.ok⟩
theorem cV {α:Type} {l:List α} {k:Nat} {x:α} (h:l[k]? =some x):l.drop k=x::l.drop (k+1):=by
 obtain ⟨hk,rfl⟩:=AT.1 h
 exact QL hk
theorem Fa {α:Type} {p:α->Bool} {l:List α} {k:Nat} {x:α} (h:(l.take k).all p=true) (hx:l[k]? =some x) (hp:p x=true):(l.take (k+1)).all p=true:=by
 rw [TP,hx,List.all_append,h];simp [hp]
def vu (s:ByteArray) (u:Un):List UInt8:=(s.data.toList.drop u.at_).take u.size
theorem qT (s:ByteArray) (a b:Nat):(s.extract a b).data.toList=(s.data.toList.drop a).take (b-a):=by
 have:(s.extract a b).data=s.data.extract a b:=by simp
 rw [this,Array.toList_extract]
theorem Di (s:ByteArray) (u:Un):(s.extract u.at_ (u.at_+u.size)).data.toList=vu s u:=by
 rw [qT,QG];rfl
def Nh (s:ByteArray) (us:List Un):ByteArray:=⟨(us.reverse.flatMap (vu s)).toArray⟩
theorem Fb (s:ByteArray):Nh s (dR s.data.toList)=vz s:=by
 apply j2
 show (dR s.data.toList).reverse.flatMap (vu s)=xR s.data.toList
 unfold xR
 rw [<-xU,<-map_reverse,TX]
 rfl
def bF (s:ByteArray):List Nat:=s.data.toList.map λ b=>b.toNat
theorem ay (s:ByteArray):(bF s).length=s.size:=by unfold bF;rw [No,sJ]
theorem kP (s:ByteArray):∀ x∈bF s,x<256:=λ x hx=>by
 obtain ⟨b,_,rfl⟩:=Qn.1 hx;exact b.toNat_lt
theorem oq {P:Program} {tx:TypeId} {w:World} (hk:P.underlying tx=some .string) (s:ByteArray):Src P 1 tx (.string s) (bF s).length ((aa .u8).all (bF s)) w:=by
 have h:=Src.ofString w hk s
 have e:(aa .u8).all (bF s)=byteCells s:=by
  unfold bF byteCells
  generalize s.data.toList=l
  induction l with
  |nil=>rfl
  |cons b l ih=>rw [Qm,Qm,Enc.all_cons,ih];rfl
 rw [e,ay];exact h
theorem ph (l:List UInt8):strOf (l.map λ b=>b.toNat)=⟨l.toArray⟩:=by
 apply j2
 simp [strOf,Sf,Sh]
def zZ (s:ByteArray) (us:List Un):List Nat:=us.reverse.flatMap λ u=>bF (s.extract u.at_ (u.at_+u.size))
theorem Fc (s:ByteArray) (us:List Un):strOf (zZ s us)=Nh s us:=by
 have:zZ s us=(us.reverse.flatMap (vu s)).map λ b=>b.toNat:=by
  unfold zZ
  rw [map_flatMap]
  congr 1
  funext u
  rw [bF,Di]
 rw [this,ph];rfl
theorem Dj (s:ByteArray) (us:List Un) (u:Un):zZ s (u::us)=zZ s us++bF (s.extract u.at_ (u.at_+u.size)):=by
 simp [zZ]
theorem vy {us:List Un} {k:Nat} {u:Un} (hu:us[k]? =some u):((us.take k).map sP++(us.drop k).map kO)[k]? =some (kO u):=by
 have hk:=(AT.1 hu).1
 rw [Qb (by simp;exact Nat.min_le_left _ _),No,KV,Qk (by omega),Qp,PX,QZ,R8,hu];rfl
theorem Bh {us:List Un} {k:Nat} {u:Un} (hu:us[k]? =some u) {b:Bool} (hb:b=u.ok):
  ((us.take k).map sP++(us.drop k).map kO).set k ⟨u.r,u.at_,u.size,b⟩=(us.take (k+1)).map sP++(us.drop (k+1)).map kO:=by
 obtain ⟨hk,he⟩:=AT.1 hu
 subst hb
 have e1:us.take (k+1)=us.take k++[u]:=by rw [TP,hu];rfl
 have e2:us.drop k=u::us.drop (k+1):=by rw [QL hk,he]
 rw [Qq _ _ (by simp;exact Nat.min_le_left _ _),No,KV,Qk (by omega),Qp,e2,e1]
 simp [sP]
theorem IM {u:Un} (h:(kO u).r≠65533):true=u.ok:=by
 have h1:u.r≠65533:=h
 simp [Un.ok,h1]
theorem IP {u:Un} (h:¬ (kO u).r≠65533):decide ((kO u).size=3)=u.ok:=by
 have h1:u.r=65533:=Qf.1 h
 show decide (u.size=3)=_
 by_cases h2:u.size=3<;>simp [Un.ok,h1,h2]
theorem Bi {l:List RU} {done:List Un} {r a:Nat} (hl:l=done.map kO++[⟨r,a,0,false⟩]):l[l.length-1]? =some ⟨r,a,0,false⟩:=by
 rw [hl];simp
theorem Fe {l:List RU} {done:List Un} {r a:Nat} (z:Nat) (hl:l=done.map kO++[⟨r,a,0,false⟩]):l.set (l.length-1) ⟨r,a,z,false⟩=(done++[(⟨r,a,z⟩:Un)]).map kO:=by
 rw [hl,sp,No,KM,Qy,Qq _ _ (by simp),No,Qp]
 simp [kO]
theorem Ff {P:Program} {n:Nat} {L:aB} {w:World} {fn:Func} {Φ:Value->World->Prop} {t T b:Nat} {u:Value} (hr:fn.results= #[.cell t T]) (hv:look L t=some (.pointer (some ⟨b,0,none⟩))) (hT:dZ P T=true)
  (hc:w.cell? ⟨b,0,none⟩=some u) (h:Φ u w):aL P n fn Φ L w:=λ a ha=>by
 have h1:=ha.slot t _ hv
 refine ⟨_,?_,h⟩
 have hl:(loadVar T ⟨b,0,none⟩).run P w= .ok u w:=by
  unfold dZ at hT
  cases hun:P.underlying T with
  |none=>simp [hun] at hT
  |some D=>cases D<;>simp [hun] at hT<;>simp [loadVar,isAgg,PN hun,hc,go_sem]
 simp [results,hr,QM,h1,asAddr,hl]
theorem Ev.MG {P:Program} {n:Nat} {L:aB} {w:World} {d:Option Nat} {ty:TypeId} {pos:String} {af:Array Edge} {g:Option (Nat×Bool)} {x y:Operand} {t T:TypeId} {a b:ByteArray}
  (hx:aJ L x=some (.string a)) (hy:aJ L y=some (.string b)) (h:a.size+b.size<=9223372036854775807):Ev P n L w ⟨d,.binOp .add t x y T,ty,pos,af,g⟩ (.string (a++b)):=
 .bin hx hy (by rfl) λ w=>by rw [binOp_string_add];exact run_string_add_sum w a b h
def Lk (P:Program) (t:Nat):Bool:=match P.info? t with
 |some i=>Nat.beq i.size 1
 |none=>false
theorem Dk {P:Program} {t:Nat} (h:Lk P t=true):(P.info? t).map (·.size)=some 1:=by
 unfold Lk at h
 split at h
 ·rename_i i hi;rw [hi];simp [QV h]
 ·cases h
def Ll (P:Program) (t:Nat) (k:IntKind):Bool:=match P.underlying t with
 |some (.int k')=>decide (k'=k)
 |_=>false
theorem Fg {P:Program} {t:Nat} {k:IntKind} (h:Ll P t k=true):P.underlying t=some (.int k):=by
 unfold Ll at h
 split at h
 ·rename_i k' hu;have:=Qw h;subst this;exact hu
 ·cases h
def xH (P:Program) (T:Nat):Nat->List Nat->Bool
 |_,[]=>true
 |i,o::r=>lr P T i o&&xH P T (i+1) r
def Fh (P:Program):List (Nat×Nat×Nat×Value×Nat)->Prop
 |[]=>True
 |(t,e,s,z,b)::r=>SlTy P t e s z b/\Fh P r
theorem ot {P:Program} {t e s b:Nat} {z:Value}:∀ {l:List (Nat×Nat×Nat×Value×Nat)},Fh P l->(t,e,s,z,b)∈l->SlTy P t e s z b
 |[],_,h=>by cases h
 |(_,_,_,_,_)::r,hl,h=>by
  rcases PR.1 h with h|h
  ·cases h;exact hl.1
  ·exact ot hl.2 h
def Fi (P:Program):List (Nat×Value)->Prop
 |[]=>True
 |(t,z)::r=>(P.info? t).map (·.zero)=some (some z)/\Fi P r
theorem tK {P:Program} {t:Nat} {z:Value}:∀ {l:List (Nat×Value)},Fi P l->(t,z)∈l->(P.info? t).map (·.zero)=some (some z)
 |[],_,h=>by cases h
 |(_,_)::r,hl,h=>by
  rcases PR.1 h with h|h
  ·cases h;exact hl.1
  ·exact tK hl.2 h
class Tb (P:Program) where
 fl:List (Nat×List Nat)
 fok:fl.all (λ e=>xH P e.1 0 e.2)=true
 it:List (Nat×IntKind)
 iok:it.all (λ e=>Ll P e.1 e.2)=true
 sc:List Nat
 sok:sc.all (dZ P)=true
 ook:sc.all (Lk P)=true
 ag:List (Nat×Nat)
 gok:ag.all (λ e=>dE P e.1 e.2)=true
 sl:List (Nat×Nat×Nat×Value×Nat)
 lok:Fh P sl
 zr:List (Nat×Value)
 zok:Fi P zr
class Ent (P:Program) (f:FuncId):Prop where
 h:Enters P f
def dB {α:Type}:List (Nat×α)->Nat->Option α
 |[],_=>none
 |(t,a)::r,T=>cond (Nat.beq t T) (some a) (dB r T)
theorem dQ {α:Type} {T:Nat} {a:α}:∀ {l:List (Nat×α)},dB l T=some a->(T,a)∈l
 |[],h=>by cases h
 |(t,b)::r,h=>by
  simp only [dB] at h
  cases hb:Nat.beq t T with
  |true=>rw [hb] at h;cases h;have:=QV hb;subst this;exact QD
  |false=>rw [hb] at h;exact Qr _ (dQ h)
theorem tL {P:Program} {T:Nat}:∀ {l:List Nat} {i f o:Nat},xH P T i l=true->l[f]? =some o->lr P T (i+f) o=true
 |[],_,_,_,_,h=>by cases h
 |a::r,i,0,o,hl,h=>by simp only [xH,PY] at hl;simp at h;subst h;exact hl.1
 |a::r,i,f+1,o,hl,h=>by
  simp only [xH,PY] at hl
  have:=tL hl.2 (f:=f) (by simpa using h)
  rwa [show i+(f+1)=i+1+f by omega]
section
variable {P:Program} [Tb P]
theorem Tb.OJ {T f o:Nat} {l:List Nat} (h:dB (Tb.fl P) T=some l) (hl:l[f]? =some o):lr P T f o=true:=by
 have:=Qt.1 (Tb.fok (P:=P)) _ (dQ h)
 have:=tL this hl
 rwa [Qa] at this
theorem Tb.int {t:Nat} {k:IntKind} (h:dB (Tb.it P) t=some k):P.underlying t=some (.int k):=
 Fg (Qt.1 (Tb.iok (P:=P)) _ (dQ h))
end
def nV (L:aB):Operand->Option (IntKind×Nat)
 | .const (.int k (.ofNat b))=>some (k,@OfNat.ofNat Nat b (instOfNatNat b))
 | .tmp t=>match look L t with
  |some (.int k (.ofNat b))=>some (k,b)
  |_=>none
 |_=>none
theorem xI {L:aB} {x:Operand} {k:IntKind} {a:Nat} (h:nV L x=some (k,a)):aJ L x=some (.int k (a:Int)):=by
 unfold nV at h
 split at h
 ·cases h;rfl
 ·rename_i t
  split at h
  ·rename_i k' b hl;cases h;exact hl
  ·cases h
 ·cases h
def Kn (b:Nat):Option Nat:=dB [(127,7),(1,1),(255,8),(3,2),(7,3),(15,4),(31,5),(63,6)] b
theorem Fj {b m:Nat} (h:Kn b=some m):b=2^m-1:=by
 have:=dQ h
 simp only [PR,Q6,PU,Q9] at this
 rcases this with ⟨rfl,rfl⟩|⟨rfl,rfl⟩|⟨rfl,rfl⟩|⟨rfl,rfl⟩|⟨rfl,rfl⟩|⟨rfl,rfl⟩|⟨rfl,rfl⟩|⟨rfl,rfl⟩<;>rfl
def binC (k:IntKind) (a:Nat) (k':IntKind) (b:Nat):BinOp->Option (Value×List Prop)
 | .add=>match k with
  | .i64=>some (.int .i64 ((a+b:Nat):Int),[k'= .i64,a+b<=9223372036854775807])
  |_=>none
 | .sub=>match k with
  | .i64=>some (.int .i64 ((a-b:Nat):Int),[k'= .i64,b<=a,a<=9223372036854775807])
  |_=>none
 | .mul=>match k with
  | .i64=>some (.int .i64 ((a*b:Nat):Int),[k'= .i64,a*b<=9223372036854775807])
  |_=>none
 | .lss=>some (.bool (decide (a<b)),[k'=k])
 | .leq=>some (.bool (decide (a<=b)),[k'=k])
 | .gtr=>some (.bool (decide (b<a)),[k'=k])
 | .geq=>some (.bool (decide (b<=a)),[k'=k])
 | .eql=>some (.bool (decide (a=b)),[k'=k])
 | .neq=>some (.bool (decide (a≠b)),[k'=k])
 | .shr=>some (.int k ((a/2^b:Nat):Int),[a<2^k.bits])
 | .shl=>some (.int k ((a*2^b%2^k.bits:Nat):Int),[k.signed=false,b<=k.bits])
 | .or=>some (.int k ((a|||b:Nat):Int),[k'=k,k.signed=false,a<2^k.bits,b<2^k.bits])
 | .and=>match Kn b with
  |some m=>some (.int k ((a%2^m:Nat):Int),[k'=k,k.signed=false,a<2^k.bits,b<2^k.bits])
  |none=>none
 |_=>none
def All:List Prop->Prop
 |[]=>True
 |p::r=>p/\All r
theorem All.app:∀ {a b:List Prop},All (a++b)->All a/\All b
 |[],_,h=>⟨trivial,h⟩
 |_::_,_,h=>⟨⟨h.1,(All.app h.2).1⟩,(All.app h.2).2⟩
def Dl (P:Program) [Tb P] (L:aB):Op->Option (Value×List Prop)
 | .move x=>match x with
  | .const (.int k (.ofNat b))=>some (.int k ((@OfNat.ofNat Nat b (instOfNatNat b):Nat):Int),[])
  |x=>(aJ L x).map λ v=>(v,[])
 | .assign x=>match x with
  | .const (.int k (.ofNat b))=>some (.int k ((@OfNat.ofNat Nat b (instOfNatNat b):Nat):Int),[])
  |x=>(aJ L x).map λ v=>(v,[])
 | .extract x i=>match aJ L x with
  |some (.tuple vs)=>(vs[i]?).map λ v=>(v,[])
  |_=>none
 | .nilCheck x=>match aJ L x with
  |some (.pointer (some p))=>some (.pointer (some p),[])
  |_=>none
 | .fieldAddr T x f=>match aJ L x with
  |some (.pointer (some ⟨b,o,none⟩))=>match dB (Tb.fl P) T with
   |some l=>(match l[f]? with
    |some off=>cond (Nat.beq o 0) (some (.pointer (some ⟨b,off,none⟩),[])) (some (.pointer (some ⟨b,o+off,none⟩),[]))
    |none=>none)
   |none=>none
  |_=>none
 | .convert s t x=>match nV L x with
  |some (_,a)=>match dB (Tb.it P) s with
   |some _=>match dB (Tb.it P) t with
    |some k=>cond k.signed (match k with
     | .i64=>some (.int .i64 ((a:Nat):Int),[a<2^63])
     |_=>none) (some (.int k ((a:Nat):Int),[a<2^k.bits]))
    |none=>none
   |none=>none
  |none=>none
 | .pick c x y=>match aJ L c with
  |some (.bool true)=>(aJ L x).map λ v=>(v,[])
  |some (.bool false)=>(aJ L y).map λ v=>(v,[])
  |_=>none
 | .unOp op _ x=>match op with
  | .not=>match aJ L x with
   |some (.bool true)=>some (.bool false,[])
   |some (.bool false)=>some (.bool true,[])
   |_=>none
  |_=>none
 | .binOp op _ x y _=>match nV L x with
  |some (k,a)=>match nV L y with
   |some (k',b)=>binC k a k' b op
   |none=>none
  |none=>none
 |_=>none
section
variable {P:Program} [Tb P] {n:Nat} {L:aB} {w:World} {d:Option Nat} {ty:TypeId} {pos:String} {af:Array Edge} {g:Option (Nat×Bool)}
theorem Ev.binC {op:BinOp} {x y:Operand} {xt yt:TypeId} {k k':IntKind} {a b:Nat} {v:Value} {C:List Prop} (hx:nV L x=some (k,a)) (hy:nV L y=some (k',b)) (h:binC k a k' b op=some (v,C)) (hC:All C):Ev P n L w ⟨d,.binOp op xt x y yt,ty,pos,af,g⟩ v:=by
 have hx:=xI hx
 have hy:=xI hy
 cases op<;>simp only [Kw.binC] at h<;>try (cases h;done)
 case add=>split at h<;>cases h;obtain ⟨rfl,h1,_⟩:=hC;exact .Kc hx hy h1
 case sub=>split at h<;>cases h;obtain ⟨rfl,h1,h2,_⟩:=hC;exact .MW hx hy h1 h2
 case mul=>split at h<;>cases h;obtain ⟨rfl,h1,_⟩:=hC;exact .Pu hx hy h1
 case lss=>cases h;obtain ⟨rfl,_⟩:=hC;exact .P5 hx hy
 case leq=>cases h;obtain ⟨rfl,_⟩:=hC;exact .Pg hx hy
 case gtr=>cases h;obtain ⟨rfl,_⟩:=hC;exact .Po hx hy
 case geq=>cases h;obtain ⟨rfl,_⟩:=hC;exact .Oj hx hy
 case eql=>cases h;obtain ⟨rfl,_⟩:=hC;exact .P7 hx hy
 case neq=>cases h;obtain ⟨rfl,_⟩:=hC;exact .Pf hx hy
 case shr=>cases h;exact .Ke hx hy hC.1
 case shl=>cases h;exact .Pq hx hy hC.1 hC.2.1
 case or=>cases h;obtain ⟨rfl,h1,h2,h3,_⟩:=hC;exact .Pz hx hy h1 h2 h3
 case and=>
  split at h
  ·rename_i m hm;cases h;obtain ⟨rfl,h1,h2,h3,_⟩:=hC;exact .Hp m hx hy h1 (Fj hm) h2 h3
  ·cases h
theorem xJ {x:Operand} {v:Value} {C:List Prop} (h:Dl P L (.move x)=some (v,C)):aJ L x=some v:=by
 simp only [Dl] at h
 split at h
 ·cases h;rfl
 ·cases hv:aJ L x with
  |none=>simp [hv] at h
  |some u=>simp [hv] at h;rw [h.1]
theorem Ev.C {op:Op} {v:Value} {C:List Prop} (h:Dl P L op=some (v,C)) (hC:All C):Ev P n L w ⟨d,op,ty,pos,af,g⟩ v:=by
 cases op<;>try (cases h;done)
 case move x=>exact .move (xJ h)
 case assign x=>exact .assign (xJ (P:=P) h)
 case extract x i=>
  simp only [Dl] at h
  split at h
  ·rename_i vs hx
   cases hv:vs[i]? with
   |none=>simp [hv] at h
   |some u=>simp [hv] at h;obtain ⟨rfl,_⟩:=h;exact .extract hx hv
  ·cases h
 case nilCheck x=>
  simp only [Dl] at h
  split at h
  ·rename_i p hx;cases h;exact .nilCheck hx
  ·cases h
 case fieldAddr T x f=>
  simp only [Dl] at h
  split at h
  ·rename_i b o hx
   split at h
   ·rename_i l hl
    cases ho:l[f]? with
    |none=>simp [ho] at h
    |some off=>
     simp only [ho] at h
     cases hb:Nat.beq o 0 with
     |true=>rw [hb] at h;cases h;have:=QV hb;subst this;exact .fieldAddr (Tb.OJ hl ho) hx (by simp)
     |false=>rw [hb] at h;cases h;exact .fieldAddr (Tb.OJ hl ho) hx rfl
   ·cases h
  ·cases h
 case convert s t x=>
  simp only [Dl] at h
  split at h
  ·rename_i k0 a hx
   split at h
   ·rename_i ks hs
    split at h
    ·rename_i k ht
     have hx:=xI hx
     have h1:(P.underlying s).isSome=true:=by rw [Tb.int hs];rfl
     cases hk:k.signed with
     |true=>
      rw [hk] at h;simp only [Sw] at h
      split at h<;>cases h
      exact .Ht h1 (Tb.int ht) hx (qX hC.1)
     |false=>rw [hk] at h;cases h;exact .Ht h1 (Tb.int ht) hx (oy hk hC.1)
    ·cases h
   ·cases h
  ·cases h
 case pick c x y=>
  simp only [Dl] at h
  split at h
  ·rename_i hc
   cases hv:aJ L x with
   |none=>simp [hv] at h
   |some u=>simp [hv] at h;obtain ⟨rfl,_⟩:=h;exact .sG hc hv
  ·rename_i hc
   cases hv:aJ L y with
   |none=>simp [hv] at h
   |some u=>simp [hv] at h;obtain ⟨rfl,_⟩:=h;exact .L7 hc hv
  ·cases h
 case unOp o t x=>
  simp only [Dl] at h
  split at h
  ·split at h
   ·rename_i hx;cases h;exact .cO hx
   ·rename_i hx;cases h;exact .cO hx
   ·cases h
  ·cases h
 case binOp op xt x y yt=>
  simp only [Dl] at h
  split at h
  ·rename_i k a hx
   split at h
   ·rename_i k' b hy;exact Ev.binC hx hy h hC
   ·cases h
  ·cases h
def gC (ops:List Oper) (L:aB):Option (Nat×Bool)->Option Bool
 |none=>some true
 |some (j,b)=>match sR ops j with
  |none=>none
  |some d=>match look L d with
   |some (.bool true)=>some b
   |some (.bool false)=>some (!b)
   |some (.tuple ⟨[]⟩)=>some false
   |_=>none
def ON (o:Oper):Oper:={o with guard:=none}
theorem RT.gT {ops r:List Oper} {K:aB->World->Prop} {o:Oper} (h:gC ops L o.guard=some true) (hk:RT P n ops (ON o::r) K L w):RT P n ops (o::r) K L w:=by
 cases hg:o.guard with
 |none=>rw [show ON o=o by unfold ON;rw [<-hg]] at hk;exact hk
 |some q=>
  obtain ⟨j,b⟩:=q
  rw [hg] at h
  simp only [gC] at h
  split at h
  ·cases h
  ·rename_i d hd
   split at h<;>first|(cases h;done)|skip
   ·rename_i hl;cases h;exact RT.yes hg hd hl rfl hk
   ·rename_i hl;cases b<;>cases h;exact RT.yes hg hd hl rfl hk
theorem RT.gF {ops r:List Oper} {K:aB->World->Prop} {o:Oper} (h:gC ops L o.guard=some false) (ho:bP n o.dst=true) (hk:RT P n ops r K (putK o.dst undef L) w):RT P n ops (o::r) K L w:=by
 cases hg:o.guard with
 |none=>rw [hg] at h;cases h
 |some q=>
  obtain ⟨j,b⟩:=q
  rw [hg] at h
  simp only [gC] at h
  split at h
  ·cases h
  ·rename_i d hd
   split at h<;>first|(cases h;done)|skip
   ·rename_i hl;cases b<;>cases h;exact RT.no hg hd hl rfl ho hk
   ·rename_i hl;cases b<;>cases h;exact RT.no hg hd hl rfl ho hk
   ·rename_i hl;exact RT.PG hg hd hl ho hk
def pL (P:Program) [Tb P] (n:Nat) (ops:List Oper):Nat->List Oper->aB->List Prop->Option (aB×List Oper×List Prop)
 |0,l,L,C=>some (L,l,C)
 |_+1,[],_,_=>none
 |k+1,⟨d,op,_,_,_,g⟩::l,L,C=>cond (bP n d) (match gC ops L g with
  |some true=>(match Dl P L op with
   |some (v,c)=>pL P n ops k l (putK d v L) (c++C)
   |none=>none)
  |some false=>pL P n ops k l (putK d undef L) C
  |none=>none) none
theorem ib {ops r:List Oper} {K:aB->World->Prop}:∀ (k:Nat) {l:List Oper} {L L':aB} {C C':List Prop},pL P n ops k l L C=some (L',r,C')->All C'->(All C->RT P n ops r K L' w)->All C/\RT P n ops l K L w
 |0,l,L,L',C,C',h,hC,hk=>by simp only [pL,Rf,Q6] at h;obtain ⟨rfl,rfl,rfl⟩:=h;exact ⟨hC,hk hC⟩
 |k+1,[],L,L',C,C',h,hC,hk=>by simp [pL] at h
 |k+1,⟨d,op,ty,pos,af,g⟩::l,L,L',C,C',h,hC,hk=>by
  simp only [pL] at h
  cases hb:bP n d with
  |false=>rw [hb] at h;cases h
  |true=>
   rw [hb] at h
   simp only [Sw] at h
   split at h
   ·rename_i hg
    split at h
    ·rename_i v c hv
     have:=ib k h hC (λ hc=>hk (All.app hc).2)
     have h2:=All.app this.1
     exact ⟨h2.2,RT.gT (o:=⟨d,op,ty,pos,af,g⟩) hg (RT.ev (o:=⟨d,op,ty,pos,af,none⟩) rfl hb (Ev.C hv h2.1) this.2)⟩
    ·cases h
   ·rename_i hg
    have:=ib k h hC hk
    exact ⟨this.1,RT.gF (o:=⟨d,op,ty,pos,af,g⟩) hg hb this.2⟩
   ·cases h
def ej (P:Program) [Tb P] (n:Nat) (ops:List Oper) (k:Nat) (l:List Oper) (L:aB):Option (Oper×List Oper×aB×List Prop):=match pL P n ops k l L [] with
 |some (L',⟨d,op,ty,pos,af,g⟩::r,C)=>cond (bP n d) (match gC ops L' g with
  |some true=>some (⟨d,op,ty,pos,af,none⟩,r,L',C)
  |_=>none) none
 |_=>none
theorem cD {ops l r:List Oper} {K:aB->World->Prop} {o:Oper} {k:Nat} {L':aB} {C:List Prop} (h:ej P n ops k l L=some (o,r,L',C)) (hC:All C) (hk:bP n o.dst=true->o.guard=none->RT P n ops (o::r) K L' w):RT P n ops l K L w:=by
 unfold ej at h
 split at h
 ·rename_i L1 d op ty pos af g r1 C1 hr
  cases hb:bP n d with
  |false=>rw [hb] at h;cases h
  |true=>
   rw [hb] at h
   simp only [Sw] at h
   split at h
   ·rename_i hg
    cases h
    exact (ib k hr hC (λ _=>RT.gT (o:=⟨d,op,ty,pos,af,g⟩) hg (hk hb rfl))).2
   ·cases h
 ·cases h
section
variable {ops l r:List Oper} {K:aB->World->Prop} {L':aB} {C:List Prop}
theorem RT.z (k:Nat) (h:pL P n ops k l L []=some (L',r,C)) (hk:RT P n ops r K L' w) (hC:All C:=by (repeat (first|exact trivial|refine ⟨by first|rfl|omega|(simp only [IntKind.bits];omega),?_⟩))):RT P n ops l K L w:=(ib k h hC (λ _=>hk)).2
theorem RT.Z (h:pL P n ops l.length l L []=some (L',[],C)) (hk:K L' w) (hC:All C:=by (repeat (first|exact trivial|refine ⟨by first|rfl|omega|(simp only [IntKind.bits];omega),?_⟩))):RT P n ops l K L w:=(ib _ h hC (λ _=> .nil hk)).2
theorem RT.G {b c:Bool} (t:Nat) (h:look L t=some (.bool b)) (hb:b=c) (hk:RT P n ops l K ((t,.bool c)::L) w):RT P n ops l K L w:=by
 subst hb
 intro a ha
 refine hk a ⟨ha.size,λ u v hv=> ?_,ha.defers⟩
 rw [iM] at hv
 by_cases e:t=u
 ·subst e;rw [PI rfl] at hv;cases hv;exact ha.slot _ _ h
 ·rw [M2 e] at hv;exact ha.slot _ _ hv
theorem RT.Gt {b:Bool} (t:Nat) (h:look L t=some (.bool b)) (hb:b=true) (hk:RT P n ops l K ((t,.bool true)::L) w):RT P n ops l K L w:=RT.G t h hb hk
theorem RT.Gf {b:Bool} (t:Nat) (h:look L t=some (.bool b)) (hb:b=false) (hk:RT P n ops l K ((t,.bool false)::L) w):RT P n ops l K L w:=RT.G t h hb hk
theorem RT.B {p:Prop} {dp:Decidable p} (t:Nat) (h:look L t=some (.bool (@decide p dp))) (ht:p->RT P n ops l K ((t,.bool true)::L) w) (hf:¬ p->RT P n ops l K ((t,.bool false)::L) w):RT P n ops l K L w:=by
 by_cases hp:p
 ·exact RT.G t h (PM hp) (ht hp)
 ·exact RT.G t h (IN hp) (hf hp)
theorem RT.M {p:Prop} {dp:Decidable p} {M:aB} {t:Nat} {b:Bool} (h:(pL P n ops l.length l L [],look L' t)=(some (L',[],C),some (.bool b))) (hb:b= @decide p dp)
  (hw:M.map (λ q=>look L' q.1)=M.map (λ q=>some q.2):=by exact rfl) (hC:All C:=by (repeat (first|exact trivial|refine ⟨by first|rfl|omega|(simp only [IntKind.bits];omega),?_⟩))):RT P n ops l (λ L' w'=>w'=w/\look L' t=some (.bool (@decide p dp))/\Weak M L') L w:=by
 simp only [Q6] at h
 exact (ib _ h.1 hC (λ _=> .nil ⟨rfl,hb▸h.2,wk hw⟩)).2
variable {cs:List Chunk} {w0:World}
theorem RT.ld {b o:Nat} {U:TypeId} {cells:List Value} {x:Operand} {T:TypeId} {v:Value} (k:Nat) (hs:Sat w0 cs w) (i:Nat)
  (h:(ej P n ops k l L,aJ L' x,cs[i]?,cells[o]?,(Tb.sc P).any (Nat.beq T))=(some (⟨d,.load T x,ty,pos,af,g⟩,r,L',C),some (.pointer (some ⟨b,o,none⟩)),some (aq b U cells),some v,true))
  (hk:RT P n ops r K (putK d v L') w) (hC:All C:=by (repeat (first|exact trivial|refine ⟨by first|rfl|omega|(simp only [IntKind.bits];omega),?_⟩))):RT P n ops l K L w:=by
 simp only [Q6] at h
 obtain ⟨h1,h2,h3,h4,h5⟩:=h
 refine cD h1 hC λ hd hg=>RT.ev hg hd (.load ?_ h2 (hs.cell h3 h4)) hk
 obtain ⟨t,ht,he⟩:=TY.1 h5
 have:=QV he
 subst this
 exact Qt.1 (Tb.sok (P:=P)) _ ht
theorem RT.lo {b m:Nat} {U:TypeId} {cells:List Value} {x:Operand} {T:TypeId} (k:Nat) (hs:Sat w0 cs w) (i:Nat)
  (h:(ej P n ops k l L,aJ L' x,cs[i]?,dB (Tb.ag P) T,cells.length)=(some (⟨d,.load T x,ty,pos,af,g⟩,r,L',C),some (.pointer (some ⟨b,0,none⟩)),some (aq b U cells),some m,m))
  (hk:RT P n ops r K (putK d (.agg cells.toArray) L') w) (hC:All C:=by (repeat (first|exact trivial|refine ⟨by first|rfl|omega|(simp only [IntKind.bits];omega),?_⟩))):RT P n ops l K L w:=by
 simp only [Q6] at h
 obtain ⟨h1,h2,h3,h4,h5⟩:=h
 exact cD h1 hC λ hd hg=>RT.ev hg hd (.fH (Qt.1 (Tb.gok (P:=P)) _ (dQ h4)) h2 hs h3 h5) hk
theorem RT.ln {α:Type} {E:Enc α} {ll:List α} {x:Operand} {v:Value} {t:TypeId} {q:Nat×Nat×Value×Nat} (k:Nat) (hr:RdL w v E ll)
  (h:(ej P n ops k l L,aJ L' x,dB (Tb.sl P) t)=(some (⟨d,.call ⟨.builtin .len,#[x],#[t]⟩,ty,pos,af,g⟩,r,L',C),some v,some q))
  (hk:RT P n ops r K (putK d (.int .i64 (ll.length:Int)) L') w) (hC:All C:=by (repeat (first|exact trivial|refine ⟨by first|rfl|omega|(simp only [IntKind.bits];omega),?_⟩))):RT P n ops l K L w:=by
 simp only [Q6] at h
 obtain ⟨h1,h2,h3⟩:=h
 exact cD h1 hC λ hd hg=>RT.ev hg hd (.OE (ot (Tb.lok (P:=P)) (dQ h3)).und h2 hr) hk
theorem RT.c {f:FuncId} {vs:List Value} {Φ:Value->World->Prop} [he:Ent P f] {xs:List Operand} {ats:Array TypeId} (k:Nat) (hc:CallsV P f vs w Φ)
  (h:(ej P n ops k l L,ow L' xs)=(some (⟨d,.call ⟨.value (.func f),xs.toArray,ats⟩,ty,pos,af,g⟩,r,L',C),some vs))
  (hk:∀ v w',Φ v w'->RT P n ops r K (putK d v L') w') (hC:All C:=by (repeat (first|exact trivial|refine ⟨by first|rfl|omega|(simp only [IntKind.bits];omega),?_⟩))):RT P n ops l K L w:=by
 simp only [Q6] at h
 obtain ⟨h1,h2⟩:=h
 exact cD h1 hC λ hd hg=>RT.HU hg hd (.call he.h h2 (hc.mono hk))
theorem RT.a {o:Oper} {v:Value} (k:Nat) (h:ej P n ops k l L=some (o,r,L',C)) (he:Ev P n L' w o v) (hk:RT P n ops r K (putK o.dst v L') w) (hC:All C:=by (repeat (first|exact trivial|refine ⟨by first|rfl|omega|(simp only [IntKind.bits];omega),?_⟩))):RT P n ops l K L w:=
 cD h hC λ hd hg=>RT.ev hg hd he hk
theorem RT.b {o:Oper} (k:Nat) (h:ej P n ops k l L=some (o,r,L',C)) (he:OpE P n L' w o λ v w'=>RT P n ops r K (putK o.dst v L') w') (hC:All C:=by (repeat (first|exact trivial|refine ⟨by first|rfl|omega|(simp only [IntKind.bits];omega),?_⟩))):RT P n ops l K L w:=
 cD h hC λ hd hg=>RT.HU hg hd he
end
section
variable {N R:aB->World->Prop} {X G:List (Nat×(aB->World->Prop))} {L':aB} {C:List Prop} {y:Code} {id:Nat} {l:List Oper}
theorem CW.Z (h:pL P n l l.length l L []=some (L',[],C)) (hk:CW P n y ⟨N,R,X,G⟩ L' w) (hC:All C:=by (repeat (first|exact trivial|refine ⟨by first|rfl|omega|(simp only [IntKind.bits];omega),?_⟩))):CW P n (.seq (.region id l.toArray false) y) ⟨N,R,X,G⟩ L w:= .seq<| .region<|(ib _ h hC (λ _=> .nil hk)).2
theorem CW.U (h:pL P n l l.length l L []=some (L',[],C)) (hk:N L' w) (hC:All C:=by (repeat (first|exact trivial|refine ⟨by first|rfl|omega|(simp only [IntKind.bits];omega),?_⟩))):CW P n (.region id l.toArray false) ⟨N,R,X,G⟩ L w:= .region<|(ib _ h hC (λ _=> .nil hk)).2
theorem CW.h (h:RT P n l l (λ L w=>CW P n y ⟨N,R,X,G⟩ L w) L w):CW P n (.seq (.region id l.toArray false) y) ⟨N,R,X,G⟩ L w:= .seq<| .region h
end
end
section
variable {P:Program} [Tb P] {n:Nat} {L:aB} {w:World} {S:World->Prop} {SS:List (World->Prop)} {K:aB->World->Prop} {ops:List Oper}
theorem kQ {o:Oper} {a:Act} (ha:Fits n L a) {b:Bool} (h:gC ops L o.guard=some b):Region.wanted o (yielded ops.toArray a.tmps)=b:=by
 cases hg:o.guard with
 |none=>rw [hg] at h;cases h;simp [Region.wanted,hg]
 |some q=>
  obtain ⟨j,c⟩:=q
  rw [hg] at h
  simp only [gC] at h
  split at h
  ·cases h
  ·rename_i d hd
   split at h<;>first|(cases h;done)|skip
   ·rename_i hl;simp only [Region.wanted,hg,ha.yielded hd hl];cases c<;>cases h<;>rfl
   ·rename_i hl;simp only [Region.wanted,hg,ha.yielded hd hl];cases c<;>cases h<;>rfl
   ·rename_i hl;cases h;simp only [Region.wanted,hg,ha.yW hd hl];rfl
theorem RP.gF {i:Nat} {o:Oper} {p:Plan} (ho:ops[i]? =some o) (h:gC ops L o.guard=some false) (hd:bP n o.dst=true) (hS:S w) (hk:RP P n ops (S::SS) p K (putK o.dst undef L) w):RP P n ops (S::SS) (.free i p) K L w:=λ a ha=>
 ⟨o,undef,ho,.inr ⟨kQ ha h,rfl⟩,hS,hk _ (ha.putK hd)⟩
theorem RP.gT {i:Nat} {o:Oper} {v:Value} {p:Plan} (ho:ops[i]? =some o) (h:gC ops L o.guard=some true) (hd:bP n o.dst=true) (he:∀ w',S w'->Ev P n L w' o v) (hS:S w) (hk:RP P n ops (S::SS) p K (putK o.dst v L) w):RP P n ops (S::SS) (.free i p) K L w:=λ a ha=>
 ⟨o,v,ho,.inl ⟨kQ ha h,λ w' hw'=>he w' hw' a ha⟩,hS,hk _ (ha.putK hd)⟩
theorem RP.fF {i:Nat} {o:Oper} {p:Plan} (ho:ops[i]? =some o) (h:gC ops L o.guard=some false) (hd:bP n o.dst=true) (hS:S w) (hk:RP P n ops (S::SS) p K (putK o.dst undef L) w):RP P n ops (S::SS) (.one i p) K L w:=λ a ha=>by
 have ho':ops.toArray[i]? =some o:=by simpa using ho
 show wpOp P ops.toArray (RQ n K) i _ a w
 unfold wpOp
 simp only [ho',kQ ha h]
 exact ⟨S,λ _ h=>h,hS,hk _ (ha.putK hd)⟩
theorem RP.fT {i:Nat} {o:Oper} {p:Plan} (ho:ops[i]? =some o) (h:gC ops L o.guard=some true) (hd:bP n o.dst=true) (he:OpE P n L w o λ v w'=>S w'/\RP P n ops (S::SS) p K (putK o.dst v L) w'):RP P n ops (S::SS) (.one i p) K L w:=λ a ha=>by
 have ho':ops.toArray[i]? =some o:=by simpa using ho
 show wpOp P ops.toArray (RQ n K) i _ a w
 unfold wpOp
 simp only [ho',kQ ha h,RA]
 exact .inl ((OpE.same (R:=λ T v w'=>RP P n ops (T::SS) p K (putK o.dst v L) w') he) a ha _ _ λ v w' ⟨T,h1,h2,h3⟩=>⟨T,h1,h2,h3 _ (ha.putK hd)⟩)
def mi (P:Program) [Tb P] (n:Nat) (ops:List Oper):Nat->Plan->aB->List Prop->Option (aB×Plan×List Prop)
 |0,p,L,C=>some (L,p,C)
 |k+1,.free i p,L,C=>(match ops[i]? with
  |some ⟨d,op,_,_,_,g⟩=>cond (bP n d) (match gC ops L g with
   |some true=>(match Dl P L op with
    |some (v,c)=>mi P n ops k p (putK d v L) (c++C)
    |none=>none)
   |some false=>mi P n ops k p (putK d undef L) C
   |none=>none) none
  |none=>none)
 |k+1,.one i p,L,C=>(match ops[i]? with
  |some ⟨d,op,_,_,_,g⟩=>cond (bP n d) (match gC ops L g with
   |some true=>(match Dl P L op with
    |some (v,c)=>mi P n ops k p (putK d v L) (c++C)
    |none=>none)
   |some false=>mi P n ops k p (putK d undef L) C
   |none=>none) none
  |none=>none)
 |_+1,_,_,_=>none
theorem fW {q:Plan} (hS:S w):∀ (k:Nat) {p:Plan} {L L':aB} {C C':List Prop},mi P n ops k p L C=some (L',q,C')->All C'->(All C->RP P n ops (S::SS) q K L' w)->All C/\RP P n ops (S::SS) p K L w
 |0,p,L,L',C,C',h,hC,hk=>by simp only [mi,Rf,Q6] at h;obtain ⟨rfl,rfl,rfl⟩:=h;exact ⟨hC,hk hC⟩
 |k+1,.free i p,L,L',C,C',h,hC,hk=>by
  simp only [mi] at h
  split at h
  ·rename_i d op ty pos af g ho
   cases hb:bP n d with
   |false=>rw [hb] at h;cases h
   |true=>
    rw [hb] at h
    simp only [Sw] at h
    split at h
    ·rename_i hg
     split at h
     ·rename_i v c hv
      have:=fW hS k h hC (λ hc=>hk (All.app hc).2)
      have h2:=All.app this.1
      exact ⟨h2.2,RP.gT ho hg hb (λ _ _=>Ev.C hv h2.1) hS this.2⟩
     ·cases h
    ·rename_i hg
     have:=fW hS k h hC hk
     exact ⟨this.1,RP.gF ho hg hb hS this.2⟩
    ·cases h
  ·cases h
 |k+1,.one i p,L,L',C,C',h,hC,hk=>by
  simp only [mi] at h
  split at h
  ·rename_i d op ty pos af g ho
   cases hb:bP n d with
   |false=>rw [hb] at h;cases h
   |true=>
    rw [hb] at h
    simp only [Sw] at h
    split at h
    ·rename_i hg
     split at h
     ·rename_i v c hv
      have:=fW hS k h hC (λ hc=>hk (All.app hc).2)
      have h2:=All.app this.1
      exact ⟨h2.2,RP.fT ho hg hb (OpE.ev (Ev.C hv h2.1) ⟨hS,this.2⟩)⟩
     ·cases h
    ·rename_i hg
     have:=fW hS k h hC hk
     exact ⟨this.1,RP.fF ho hg hb hS this.2⟩
    ·cases h
  ·cases h
 |k+1,.fin,L,L',C,C',h,hC,hk=>by simp [mi] at h
 |k+1,.loose _ _,L,L',C,C',h,hC,hk=>by simp [mi] at h
 |k+1,.bar _ _,L,L',C,C',h,hC,hk=>by simp [mi] at h
 |k+1,.two _ _ _ _,L,L',C,C',h,hC,hk=>by simp [mi] at h
def ic (P:Program) [Tb P] (n:Nat) (ops:List Oper) (k:Nat) (p:Plan) (L:aB):Option (Bool×Oper×Plan×aB×List Prop):=match mi P n ops k p L [] with
 |some (L',.free i q,C)=>(match ops[i]? with
  |some o=>cond (bP n o.dst) (match gC ops L' o.guard with
   |some true=>some (true,o,q,L',C)
   |_=>none) none
  |none=>none)
 |some (L',.one i q,C)=>(match ops[i]? with
  |some o=>cond (bP n o.dst) (match gC ops L' o.guard with
   |some true=>some (false,o,q,L',C)
   |_=>none) none
  |none=>none)
 |_=>none
variable {p q:Plan} {L':aB} {C:List Prop} {o:Oper}
theorem fq {k:Nat} {v:Value} {bb:Bool} (hS:S w) (h:ic P n ops k p L=some (bb,o,q,L',C)) (hC:All C) (he:∀ w',S w'->Ev P n L' w' o v) (hk:RP P n ops (S::SS) q K (putK o.dst v L') w):RP P n ops (S::SS) p K L w:=by
 unfold ic at h
 split at h
 ·rename_i L1 i q1 C1 hr
  split at h
  ·rename_i o1 ho
   cases hb:bP n o1.dst with
   |false=>rw [hb] at h;cases h
   |true=>
    rw [hb] at h
    simp only [Sw] at h
    split at h
    ·rename_i hg
     cases h
     exact (fW hS k hr hC (λ _=>RP.gT ho hg hb he hS hk)).2
    ·cases h
  ·cases h
 ·rename_i L1 i q1 C1 hr
  split at h
  ·rename_i o1 ho
   cases hb:bP n o1.dst with
   |false=>rw [hb] at h;cases h
   |true=>
    rw [hb] at h
    simp only [Sw] at h
    split at h
    ·rename_i hg
     cases h
     exact (fW hS k hr hC (λ _=>RP.fT ho hg hb (OpE.ev (he w hS) ⟨hS,hk⟩))).2
    ·cases h
  ·cases h
 ·cases h
theorem tM {k:Nat} (hS:S w) (h:ic P n ops k p L=some (false,o,q,L',C)) (hC:All C) (he:OpE P n L' w o λ v w'=>S w'/\RP P n ops (S::SS) q K (putK o.dst v L') w'):RP P n ops (S::SS) p K L w:=by
 unfold ic at h
 split at h
 ·split at h
  ·rename_i o1 ho
   cases hb:bP n o1.dst with
   |false=>rw [hb] at h;cases h
   |true=>
    rw [hb] at h
    simp only [Sw] at h
    split at h<;>cases h
  ·cases h
 ·rename_i L1 i q1 C1 hr
  split at h
  ·rename_i o1 ho
   cases hb:bP n o1.dst with
   |false=>rw [hb] at h;cases h
   |true=>
    rw [hb] at h
    simp only [Sw] at h
    split at h
    ·rename_i hg
     cases h
     exact (fW hS k hr hC (λ _=>RP.fT ho hg hb he)).2
    ·cases h
  ·cases h
 ·cases h
theorem RP.z (k:Nat) (hS:S w) (h:mi P n ops k p L []=some (L',q,C)) (hk:RP P n ops (S::SS) q K L' w) (hC:All C:=by (repeat (first|exact trivial|refine ⟨by first|rfl|omega|(simp only [IntKind.bits];omega),?_⟩))):RP P n ops (S::SS) p K L w:=(fW hS k h hC (λ _=>hk)).2
theorem RP.Z (hS:S w) (h:mi P n ops p.depth p L []=some (L',.fin,C)) (hk:K L' w) (hC:All C:=by (repeat (first|exact trivial|refine ⟨by first|rfl|omega|(simp only [IntKind.bits];omega),?_⟩))):RP P n ops (S::SS) p K L w:=(fW hS _ h hC (λ _=> .fin hk)).2
theorem RP.G {b c:Bool} (t:Nat) (h:look L t=some (.bool b)) (hb:b=c) (hk:RP P n ops (S::SS) p K ((t,.bool c)::L) w):RP P n ops (S::SS) p K L w:=by
 subst hb
 intro a ha
 refine hk a ⟨ha.size,λ u v hv=> ?_,ha.defers⟩
 rw [iM] at hv
 by_cases e:t=u
 ·subst e;rw [PI rfl] at hv;cases hv;exact ha.slot _ _ h
 ·rw [M2 e] at hv;exact ha.slot _ _ hv
theorem RP.Gt {b:Bool} (t:Nat) (h:look L t=some (.bool b)) (hb:b=true) (hk:RP P n ops (S::SS) p K ((t,.bool true)::L) w):RP P n ops (S::SS) p K L w:=RP.G t h hb hk
theorem RP.Gf {b:Bool} (t:Nat) (h:look L t=some (.bool b)) (hb:b=false) (hk:RP P n ops (S::SS) p K ((t,.bool false)::L) w):RP P n ops (S::SS) p K L w:=RP.G t h hb hk
theorem RP.B {φ:Prop} {dp:Decidable φ} (t:Nat) (h:look L t=some (.bool (@decide φ dp))) (ht:φ->RP P n ops (S::SS) p K ((t,.bool true)::L) w) (hf:¬ φ->RP P n ops (S::SS) p K ((t,.bool false)::L) w):RP P n ops (S::SS) p K L w:=by
 by_cases hp:φ
 ·exact RP.G t h (PM hp) (ht hp)
 ·exact RP.G t h (IN hp) (hf hp)
variable {cs:List Chunk} {w0:World} {bb:Bool} {d:Option Nat} {ty:TypeId} {pos:String} {af:Array Edge} {g:Option (Nat×Bool)}
theorem RP.ld {b o:Nat} {U:TypeId} {cells:List Value} {x:Operand} {T:TypeId} {v:Value} (k:Nat) (hS:Sat w0 cs w) (i:Nat)
  (h:(ic P n ops k p L,aJ L' x,cs[i]?,cells[o]?,(Tb.sc P).any (Nat.beq T))=(some (bb,⟨d,.load T x,ty,pos,af,g⟩,q,L',C),some (.pointer (some ⟨b,o,none⟩)),some (aq b U cells),some v,true))
  (hk:RP P n ops ((λ w'=>Sat w0 cs w')::SS) q K (putK d v L') w) (hC:All C:=by (repeat (first|exact trivial|refine ⟨by first|rfl|omega|(simp only [IntKind.bits];omega),?_⟩))):RP P n ops ((λ w'=>Sat w0 cs w')::SS) p K L w:=by
 simp only [Q6] at h
 obtain ⟨h1,h2,h3,h4,h5⟩:=h
 refine fq (S:=λ w'=>Sat w0 cs w') hS h1 hC (λ w' hs=> .load ?_ h2 (Sat.cell hs h3 h4)) hk
 obtain ⟨t,ht,he⟩:=TY.1 h5
 have:=QV he
 subst this
 exact Qt.1 (Tb.sok (P:=P)) _ ht
theorem RP.c {f:FuncId} {vs:List Value} {Φ:Value->World->Prop} [he:Ent P f] {xs:List Operand} {ats:Array TypeId} (k:Nat) (hS:S w) (hc:CallsV P f vs w Φ)
  (h:(ic P n ops k p L,ow L' xs)=(some (false,⟨d,.call ⟨.value (.func f),xs.toArray,ats⟩,ty,pos,af,g⟩,q,L',C),some vs))
  (hk:∀ v w',Φ v w'->S w'/\RP P n ops (S::SS) q K (putK d v L') w') (hC:All C:=by (repeat (first|exact trivial|refine ⟨by first|rfl|omega|(simp only [IntKind.bits];omega),?_⟩))):RP P n ops (S::SS) p K L w:=by
 simp only [Q6] at h
 obtain ⟨h1,h2⟩:=h
 exact tM hS h1 hC (.call he.h h2 (hc.mono hk))
theorem RP.a {v:Value} (k:Nat) (hS:S w) (h:ic P n ops k p L=some (bb,o,q,L',C)) (he:∀ w',S w'->Ev P n L' w' o v) (hk:RP P n ops (S::SS) q K (putK o.dst v L') w) (hC:All C:=by (repeat (first|exact trivial|refine ⟨by first|rfl|omega|(simp only [IntKind.bits];omega),?_⟩))):RP P n ops (S::SS) p K L w:=fq hS h hC he hk
theorem RP.b (k:Nat) (hS:S w) (h:ic P n ops k p L=some (false,o,q,L',C)) (he:OpE P n L' w o λ v w'=>S w'/\RP P n ops (S::SS) q K (putK o.dst v L') w') (hC:All C:=by (repeat (first|exact trivial|refine ⟨by first|rfl|omega|(simp only [IntKind.bits];omega),?_⟩))):RP P n ops (S::SS) p K L w:=tM hS h hC he
end
abbrev Sat.L {w0 w:World} {cs:List Chunk} (_:Sat w0 cs w):List Chunk:=cs
def Lm:List Chunk->List (Nat×Chunk)->List Chunk
 |cs,[]=>cs
 |cs,(i,c)::r=>Lm (cs.set i c) r
abbrev Sat.U {w0 w:World} {cs:List Chunk} (_:Sat w0 cs w) (u:List (Nat×Chunk)):List Chunk:=Lm cs u
abbrev Sat.V {w0 w:World} {A cs:List Chunk} (_:Sat w0 (A++cs) w) (u:List (Nat×Chunk)):List Chunk:=Lm A u
section
variable {P:Program} {n:Nat} {N R:aB->World->Prop} {X G:List (Nat×(aB->World->Prop))} {L L0:aB} {w:World}
theorem CW.lp {c:Code} {α:Type} (ts:List Nat) (h:nb ts L=some L0) (K:α->aB) (I:α->World->Prop) (μ:α->Nat) (x₀:α) (h0:Weak (K x₀++L0) L) (hI:I x₀ w)
  (round:∀ x w,I x w->CW P n c ⟨λ L' w'=>∃ x',Weak (K x'++L0) L'/\I x' w'/\μ x'<μ x,R,X,G⟩ (K x++L0) w):CW P n (.loop c) ⟨N,R,X,G⟩ L w:=CW.loop (λ x=>K x++L0) I μ x₀ h0 hI round
theorem CW.jn {x y:Code} (ts:List Nat) (h:nb ts L=some L0) (M:aB->aB->World->Prop) (h1:CW P n x ⟨M L0,R,X,G⟩ L w) (h2:∀ L' w',M L0 L' w'->CW P n y ⟨N,R,X,G⟩ L' w'):CW P n (.seq x y) ⟨N,R,X,G⟩ L w:=CW.AP (M L0) h1 h2
theorem CW.md {c:Code} (ts:List Nat) (h:nb ts L=some L0) (M:aB->aB->World->Prop) (h1:CW P n c ⟨M L0,R,X,G⟩ L w) (h2:∀ L' w',M L0 L' w'->N L' w'):CW P n c ⟨N,R,X,G⟩ L w:=CW.wI (M L0) h1 h2
end
section
variable {P:Program} [Tb P] {n:Nat} {L L':aB} {w w0:World} {d:Option Nat} {ty:TypeId} {pos:String} {af:Array Edge} {g:Option (Nat×Bool)} {ops l r:List Oper} {K:aB->World->Prop} {C:List Prop} {cs:List Chunk}
variable {α:Type} {E:Enc α} {ll:List α} {v u:Value} {x i:Operand} {j:Nat} {a:α} {t e b:Nat} {z:Value} {T:TypeId} {kk:IntKind}
theorem IQ (h:(Tb.sc P).any (Nat.beq T)=true):dZ P T=true:=by
 obtain ⟨t,ht,he⟩:=TY.1 h
 have:=QV he
 subst this
 exact Qt.1 (Tb.sok (P:=P)) _ ht
theorem Ln {m:Nat} (h:dB (Tb.ag P) T=some m):dE P T m=true:=Qt.1 (Tb.gok (P:=P)) _ (dQ h)
theorem Fk {s:Nat} (h:dB (Tb.sl P) t=some (e,s,z,b)):SlTy P t e s z b:=ot (Tb.lok (P:=P)) (dQ h)
theorem RT.ix (k:Nat) (hr:RdL w v E ll) (h:(ej P n ops k l L,aJ L' x,nV L' i,dB (Tb.sl P) t)=(some (⟨d,.indexAddr t x i,ty,pos,af,g⟩,r,L',C),some v,some (kk,j),some (e,E.s,z,b)))
  (hk:RT P n ops r K (putK d (bH v (j*E.s)) L') w) (hj:j<ll.length:=by omega) (hC:All C:=by (repeat (first|exact trivial|refine ⟨by first|rfl|omega|(simp only [IntKind.bits];omega),?_⟩))):RT P n ops l K L w:=by
 simp only [Q6] at h
 obtain ⟨h1,h2,h3,h4⟩:=h
 exact cD h1 hC λ hd hg=>RT.ev hg hd (.j4 (Fk h4) h2 (xI h3) hr hj) hk
theorem RT.le (k:Nat) (hr:RdL w v E ll) (ha:ll[j]? =some a) (h:(ej P n ops k l L,aJ L' x,(Tb.sc P).any (Nat.beq T),(E.enc a)[0]?,Nat.blt 0 E.s)=(some (⟨d,.load T x,ty,pos,af,g⟩,r,L',C),some (bH v (j*E.s)),true,some u,true))
  (hk:RT P n ops r K (putK d u L') w) (hC:All C:=by (repeat (first|exact trivial|refine ⟨by first|rfl|omega|(simp only [IntKind.bits];omega),?_⟩))):RT P n ops l K L w:=by
 simp only [Q6] at h
 obtain ⟨h1,h2,h3,h4,h5⟩:=h
 exact cD h1 hC λ hd hg=>RT.ev hg hd (.OK (IQ h3) h2 hr ha (Qe h5) h4) hk
theorem RT.lf {off:Nat} (k:Nat) (hr:RdL w v E ll) (ha:ll[j]? =some a) (h:(ej P n ops k l L,aJ L' x,(Tb.sc P).any (Nat.beq T),(E.enc a)[off]?,Nat.blt off E.s)=(some (⟨d,.load T x,ty,pos,af,g⟩,r,L',C),some (bH v (j*E.s+off)),true,some u,true))
  (hk:RT P n ops r K (putK d u L') w) (hC:All C:=by (repeat (first|exact trivial|refine ⟨by first|rfl|omega|(simp only [IntKind.bits];omega),?_⟩))):RT P n ops l K L w:=by
 simp only [Q6] at h
 obtain ⟨h1,h2,h3,h4,h5⟩:=h
 exact cD h1 hC λ hd hg=>RT.ev hg hd (.Ol (IQ h3) h2 hr ha (Qe h5) h4) hk
theorem RT.lg (k:Nat) (hr:RdL w v E ll) (ha:ll[j]? =some a) (h:(ej P n ops k l L,aJ L' x,dB (Tb.ag P) T,Nat.blt 0 E.s)=(some (⟨d,.load T x,ty,pos,af,g⟩,r,L',C),some (bH v (j*E.s)),some E.s,true))
  (hk:RT P n ops r K (putK d (E.ag a) L') w) (hC:All C:=by (repeat (first|exact trivial|refine ⟨by first|rfl|omega|(simp only [IntKind.bits];omega),?_⟩))):RT P n ops l K L w:=by
 simp only [Q6] at h
 obtain ⟨h1,h2,h3,h5⟩:=h
 exact cD h1 hC λ hd hg=>RT.ev hg hd (.L9 (Ln h3) h2 hr ha (Qe h5)) hk
theorem RT.fl {f off:Nat} {fs:List Nat} (k:Nat) (hr:RdL w v E ll) (h:(ej P n ops k l L,aJ L' x,dB (Tb.fl P) T,fs[f]?,Nat.blt 0 E.s)=(some (⟨d,.fieldAddr T x f,ty,pos,af,g⟩,r,L',C),some (bH v (j*E.s)),some fs,some off,true))
  (hk:RT P n ops r K (putK d (bH v (j*E.s+off)) L') w) (hj:j<ll.length:=by omega) (hC:All C:=by (repeat (first|exact trivial|refine ⟨by first|rfl|omega|(simp only [IntKind.bits];omega),?_⟩))):RT P n ops l K L w:=by
 simp only [Q6] at h
 obtain ⟨h1,h2,h3,h4,h5⟩:=h
 exact cD h1 hC λ hd hg=>RT.ev hg hd (.Ou (Tb.OJ h3 h4) h2 hr hj (Qe h5)) hk
theorem RT.bx (k:Nat) (hs:Sat w0 cs w) (h:(ej P n ops k l L,aJ L' x)=(some (⟨d,.box T x,ty,pos,af,g⟩,r,L',C),some v))
  (hk:∀ b w',Sat w0 (cs++[aq b T v.cells.toList]) w'->Chg [] w w'->w.heap.size<=b->RT P n ops r K (putK d (.pointer (some ⟨b,0,none⟩)) L') w') (hC:All C:=by (repeat (first|exact trivial|refine ⟨by first|rfl|omega|(simp only [IntKind.bits];omega),?_⟩))):RT P n ops l K L w:=by
 simp only [Q6] at h
 obtain ⟨h1,h2⟩:=h
 exact cD h1 hC λ hd hg=>RT.HU hg hd (.box hs h2 hk)
theorem RT.al (k:Nat) (hs:Sat w0 cs w) (h:(ej P n ops k l L,dB (Tb.zr P) T)=(some (⟨d,.alloc T,ty,pos,af,g⟩,r,L',C),some z))
  (hk:∀ b w',Sat w0 (cs++[aq b T z.cells.toList]) w'->Chg [] w w'->w.heap.size<=b->RT P n ops r K (putK d (.pointer (some ⟨b,0,none⟩)) L') w') (hC:All C:=by (repeat (first|exact trivial|refine ⟨by first|rfl|omega|(simp only [IntKind.bits];omega),?_⟩))):RT P n ops l K L w:=by
 simp only [Q6] at h
 obtain ⟨h1,h2⟩:=h
 exact cD h1 hC λ hd hg=>RT.HU hg hd (.alloc hs (tK (Tb.zok (P:=P)) (dQ h2)) hk)
theorem oneOf (h:(Tb.sc P).any (Nat.beq T)=true):(P.info? T).map (·.size)=some 1:=by
 obtain ⟨t,ht,he⟩:=TY.1 h
 have:=QV he
 subst this
 exact Dk (Qt.1 (Tb.ook (P:=P)) _ ht)
variable {y:Operand} {U:TypeId} {cells vs:List Value} {u0:Value} {bb:Nat}
theorem RT.st (k:Nat) (hs:Sat w0 cs w) (i:Nat) (h:(ej P n ops k l L,aJ L' x,aJ L' y,cs[i]?,cells[j]?,(Tb.sc P).any (Nat.beq T))=(some (⟨d,.store T x y,ty,pos,af,g⟩,r,L',C),some (.pointer (some ⟨bb,j,none⟩)),some v,some (aq bb U cells),some u0,true))
  (hk:∀ w',Sat w0 (cs.set i (aq bb U (cells.set j v))) w'->Chg [bb] w w'->RT P n ops r K (putK d undef L') w') (h1:v.oneCell'=true:=by exact rfl) (hC:All C:=by (repeat (first|exact trivial|refine ⟨by first|rfl|omega|(simp only [IntKind.bits];omega),?_⟩))):RT P n ops l K L w:=by
 simp only [Q6] at h
 obtain ⟨q1,q2,q3,q4,q5,q6⟩:=h
 exact cD q1 hC λ hd hg=>RT.HU hg hd (.aK (oneOf q6) hs q4 q2 q3 h1 q5 hk)
theorem RT.sa {m:Nat} (k:Nat) (hs:Sat w0 cs w) (i:Nat) (h:(ej P n ops k l L,aJ L' x,aJ L' y,cs[i]?,dB (Tb.ag P) T,vs.length,cells.length)=(some (⟨d,.store T x y,ty,pos,af,g⟩,r,L',C),some (.pointer (some ⟨bb,0,none⟩)),some (.agg vs.toArray),some (aq bb U cells),some m,m,m))
  (h1:∀ v∈vs,v.oneCell'=true) (hk:∀ w',Sat w0 (cs.set i (aq bb U vs)) w'->Chg [bb] w w'->RT P n ops r K (putK d undef L') w') (hC:All C:=by (repeat (first|exact trivial|refine ⟨by first|rfl|omega|(simp only [IntKind.bits];omega),?_⟩))):RT P n ops l K L w:=by
 simp only [Q6] at h
 obtain ⟨q1,q2,q3,q4,q5,q6,q7⟩:=h
 exact cD q1 hC λ hd hg=>RT.HU hg hd (.cz (q6▸Ln q5) hs q4 (q6.trans q7.symm) q2 q3 h1 hk)
theorem RT.ap {m:List α} {tx:TypeId} {q:Nat×Nat×Value×Nat} (k:Nat) (hs:Sat w0 cs w) (i:Nat) (hr:RdL w u E m) (h:(ej P n ops k l L,aJ L' x,aJ L' y,cs[i]?,dB (Tb.sl P) t,dB (Tb.sl P) tx)=(some (⟨d,.call ⟨.builtin .append,#[x,y],#[t,tx]⟩,ty,pos,af,g⟩,r,L',C),some v,some u,some (cL v e E ll),some (e,E.s,z,b),some q))
  (hk:∀ v' w',Sat w0 (cs.set i (cL v' e E (ll++m))) w'->Chg (bM v) w w'->RT P n ops r K (putK d v' L') w') (h1:ll.length+m.length<=9223372036854775807:=by first|omega|(simp;omega)) (h2:(ll.length+m.length)*b<=140737488355328:=by first|omega|(simp;omega)) (hC:All C:=by (repeat (first|exact trivial|refine ⟨by first|rfl|omega|(simp only [IntKind.bits];omega),?_⟩))):RT P n ops l K L w:=by
 simp only [Q6] at h
 obtain ⟨q1,q2,q3,q4,q5,q6⟩:=h
 exact cD q1 hC λ hd hg=>RT.HU hg hd (.aw i (Fk q5) hs q4 q2 q3 (Fk (e:=q.1) (s:=q.2.1) (z:=q.2.2.1) (b:=q.2.2.2) q6).und hr h1 h2 hk)
end
section
variable {P:Program} [Tb P] {n:Nat} {L L':aB} {w w0:World} {S:World->Prop} {SS:List (World->Prop)} {d:Option Nat} {ty:TypeId} {pos:String} {af:Array Edge} {g:Option (Nat×Bool)} {ops:List Oper} {p q:Plan} {K:aB->World->Prop} {C:List Prop} {bb:Bool}
variable {α:Type} {E:Enc α} {ll:List α} {v u:Value} {x i:Operand} {j:Nat} {a:α} {t e b:Nat} {z:Value} {T:TypeId} {kk:IntKind}
theorem RP.ln {f:Nat×Nat×Value×Nat} (k:Nat) (hS:S w) (hr:∀ {w'},S w'->RdL w' v E ll) (h:(ic P n ops k p L,aJ L' x,dB (Tb.sl P) t)=(some (bb,⟨d,.call ⟨.builtin .len,#[x],#[t]⟩,ty,pos,af,g⟩,q,L',C),some v,some f))
  (hk:RP P n ops (S::SS) q K (putK d (.int .i64 (ll.length:Int)) L') w) (hC:All C:=by (repeat (first|exact trivial|refine ⟨by first|rfl|omega|(simp only [IntKind.bits];omega),?_⟩))):RP P n ops (S::SS) p K L w:=by
 simp only [Q6] at h
 obtain ⟨h1,h2,h3⟩:=h
 exact fq hS h1 hC (λ w' s=> .OE (Fk (e:=f.1) (s:=f.2.1) (z:=f.2.2.1) (b:=f.2.2.2) h3).und h2 (hr s)) hk
theorem RP.ix (k:Nat) (hS:S w) (hr:∀ {w'},S w'->RdL w' v E ll) (h:(ic P n ops k p L,aJ L' x,nV L' i,dB (Tb.sl P) t)=(some (bb,⟨d,.indexAddr t x i,ty,pos,af,g⟩,q,L',C),some v,some (kk,j),some (e,E.s,z,b)))
  (hk:RP P n ops (S::SS) q K (putK d (bH v (j*E.s)) L') w) (hj:j<ll.length:=by omega) (hC:All C:=by (repeat (first|exact trivial|refine ⟨by first|rfl|omega|(simp only [IntKind.bits];omega),?_⟩))):RP P n ops (S::SS) p K L w:=by
 simp only [Q6] at h
 obtain ⟨h1,h2,h3,h4⟩:=h
 exact fq hS h1 hC (λ w' s=> .j4 (Fk h4) h2 (xI h3) (hr s) hj) hk
theorem RP.le (k:Nat) (hS:S w) (hr:∀ {w'},S w'->RdL w' v E ll) (ha:ll[j]? =some a) (h:(ic P n ops k p L,aJ L' x,(Tb.sc P).any (Nat.beq T),(E.enc a)[0]?,Nat.blt 0 E.s)=(some (bb,⟨d,.load T x,ty,pos,af,g⟩,q,L',C),some (bH v (j*E.s)),true,some u,true))
  (hk:RP P n ops (S::SS) q K (putK d u L') w) (hC:All C:=by (repeat (first|exact trivial|refine ⟨by first|rfl|omega|(simp only [IntKind.bits];omega),?_⟩))):RP P n ops (S::SS) p K L w:=by
 simp only [Q6] at h
 obtain ⟨h1,h2,h3,h4,h5⟩:=h
 exact fq hS h1 hC (λ w' s=> .OK (IQ h3) h2 (hr s) ha (Qe h5) h4) hk
theorem RP.lf {off:Nat} (k:Nat) (hS:S w) (hr:∀ {w'},S w'->RdL w' v E ll) (ha:ll[j]? =some a) (h:(ic P n ops k p L,aJ L' x,(Tb.sc P).any (Nat.beq T),(E.enc a)[off]?,Nat.blt off E.s)=(some (bb,⟨d,.load T x,ty,pos,af,g⟩,q,L',C),some (bH v (j*E.s+off)),true,some u,true))
  (hk:RP P n ops (S::SS) q K (putK d u L') w) (hC:All C:=by (repeat (first|exact trivial|refine ⟨by first|rfl|omega|(simp only [IntKind.bits];omega),?_⟩))):RP P n ops (S::SS) p K L w:=by
 simp only [Q6] at h
 obtain ⟨h1,h2,h3,h4,h5⟩:=h
 exact fq hS h1 hC (λ w' s=> .Ol (IQ h3) h2 (hr s) ha (Qe h5) h4) hk
theorem RP.lg (k:Nat) (hS:S w) (hr:∀ {w'},S w'->RdL w' v E ll) (ha:ll[j]? =some a) (h:(ic P n ops k p L,aJ L' x,dB (Tb.ag P) T,Nat.blt 0 E.s)=(some (bb,⟨d,.load T x,ty,pos,af,g⟩,q,L',C),some (bH v (j*E.s)),some E.s,true))
  (hk:RP P n ops (S::SS) q K (putK d (E.ag a) L') w) (hC:All C:=by (repeat (first|exact trivial|refine ⟨by first|rfl|omega|(simp only [IntKind.bits];omega),?_⟩))):RP P n ops (S::SS) p K L w:=by
 simp only [Q6] at h
 obtain ⟨h1,h2,h3,h5⟩:=h
 exact fq hS h1 hC (λ w' s=> .L9 (Ln h3) h2 (hr s) ha (Qe h5)) hk
theorem RP.fl {f off:Nat} {fs:List Nat} (k:Nat) (hS:S w) (hr:∀ {w'},S w'->RdL w' v E ll) (h:(ic P n ops k p L,aJ L' x,dB (Tb.fl P) T,fs[f]?,Nat.blt 0 E.s)=(some (bb,⟨d,.fieldAddr T x f,ty,pos,af,g⟩,q,L',C),some (bH v (j*E.s)),some fs,some off,true))
  (hk:RP P n ops (S::SS) q K (putK d (bH v (j*E.s+off)) L') w) (hj:j<ll.length:=by omega) (hC:All C:=by (repeat (first|exact trivial|refine ⟨by first|rfl|omega|(simp only [IntKind.bits];omega),?_⟩))):RP P n ops (S::SS) p K L w:=by
 simp only [Q6] at h
 obtain ⟨h1,h2,h3,h4,h5⟩:=h
 exact fq hS h1 hC (λ w' s=> .Ou (Tb.OJ h3 h4) h2 (hr s) hj (Qe h5)) hk
end
section
variable {P:Program} {n:Nat} {fn:Func} {Φ:Value->World->Prop} {L:aB} {w:World}
theorem jW {t T b u s:Nat} {vs:List Value} {x y:Value} (hr:fn.results= #[.cell t T,.tmp u,.tmp s]) (hv:look L t=some (.pointer (some ⟨b,0,none⟩))) (hx:look L u=some x) (hy:look L s=some y) (hT:dE P T vs.length=true) (hc:∀ j u,vs[j]? =some u->w.cell? ⟨b,j,none⟩=some u)
  (h:Φ (.tuple #[.agg vs.toArray,x,y]) w):aL P n fn Φ L w:=λ a ha=>by
 have h1:=ha.slot t _ hv
 have h2:=ha.slot u _ hx
 have h3:=ha.slot s _ hy
 refine ⟨_,?_,h⟩
 simp [results,hr,QM,h1,h2,h3,asAddr,jU hT hc]
end
section
variable {P:Program} {n:Nat} {L:aB} {w w0:World} {cs:List Chunk} {K:Value->World->Prop} {d:Option Nat} {ty:TypeId} {pos:String} {af:Array Edge} {g:Option (Nat×Bool)}
structure VV where
 a:Value
 b:Value
 ha:a.oneCell'=true
 hb:b.oneCell'=true
def jX:Enc VV:=⟨2,λ x=>[x.a,x.b],λ _=>rfl,λ x u h=>by
 simp only [PR,PU,Q9] at h
 rcases h with rfl|rfl
 ·exact x.ha
 ·exact x.hb⟩
end
section
variable {P:Program} {n:Nat} {fn:Func} {Φ:Value->World->Prop} {L:aB} {w:World}
end
end Go.Kw
