/-
 KY:texts made into bytes;a strings.Builder;literals of three structs;what wraps. Our own text;it names no program.
-/
import Derived.Test.YtcmldpiicnobnaaGreatDoorKp
import Derived.Test.YtcmldpiicnobnaaGreatDoorKg
import Derived.Test.YtcmldpiicnobnaaGreatDoorM42b
import Derived.Lib.ConvBytes
import Derived.Lib.AtoiErrMem
import Derived.Lib.Builder
import Derived.Laws.StructEq
import Derived.Lib.LaidTab
import Derived.Lib.Join
import Derived.Lib.AppendIntMem
import Derived.Laws.Externs
set_option linter.all false
open Go.Proofs.YtcmldpiicnobnaaGreatDoor
open List
namespace Go.Kw
open Go.RowKit
def xb{α:Type}(v:Value)(E:Enc α)(l:List α):Chunk where
 foot:=bz v
 holds w:=RdL w v E l
 stable w w' h hc:=by
  obtain⟨a,cap,rfl,hn,hr⟩:=hc;refine⟨a,cap,J,hn,λ j u hu=>?_⟩;obtain⟨b,o,rfl,hw⟩:=hr j u hu;exact⟨b,o,J,(World.cell?_of_block (w:=w) (a:=⟨b,o+j,none⟩) (h b (by simp[bz]))).trans hw⟩
def Sat.gG{α:Type}{w0 w:World}{cs:List Chunk}(h:Sat w0 cs w){v:Value}{E:Enc α}{l:List α}(i:Nat)(hi:cs[i]? =some (xb v E l)):RdL w v E l:=h.get hi
theorem Sat.NL{w0 w w':World}{cs:List Chunk}(h:Sat w0 cs w)(hb:Below w.heap.size w w'):Sat w0 cs w':=h.step (.gE hb)
def Sat.mT{w w':World}(hb:Below w.heap.size w w'):Sat w [] w':=(Sat.start w).NL hb
section
variable {P:Program} {n:Nat} {L:aA} {w w0:World} {cs:List Chunk} {K:Value->World->Prop} {d:Option Nat} {ty:TypeId} {pos:String} {af:Array Edge} {g:Option (Nat×Bool)}
def OpE.gR{x:Operand}{s t e:TypeId}{u:ByteArray}{uT:TypeDesc}(h1:P.underlying s=some uT)(h2:P.underlying t=some (.slice e))(h3:P.underlying e=some (.int .u8))(hs:Sat w0 cs w)(hx:aH L x=some (.string u))(hu:u.size<=4611686018427387904)
  (hk:∀ v w',Sat w0 (cs++[xb v (ae .u8) (aF u)]) w'->K v w'):OpE P n L w ⟨d,.convert s t x,ty,pos,af,g⟩ K:=by
 have hb:=Lib.bytesWorld_below w e u;refine .val (v:=.slice (some ⟨w.heap.size,0,none⟩) u.size (grownCap w u.size 0 e)) (w':=Lib.bytesWorld w e u) (λ ρ hρ=>?_) (hk (.slice (some ⟨w.heap.size,0,none⟩) u.size (grownCap w u.size 0 e)) _ (hs.add (.gE hb) ?_ ?_))
 ·simp only[execOp,hρ hx,ON,Lib.run_convert_string_bytes w s t e u h1 h2 h3,Ox,OR]
 ·show RdL _ _ _ _;refine⟨_,_,by rw[aj],by rw[aj];exact RO ..,λ j v hj=>⟨w.heap.size,0,J,?_⟩⟩;have hjl:=(sp.1 hj).1;rw[(ae .u8).all_length,aj]at hjl;have hjl2:j<u.size:=by have e1:(ae .u8).s=1:=rfl;rw[e1,PL]at hjl;exact hjl
  rw[Pa,Lib.bytesWorld_cell w e u j hjl2];have e1:(ae .u8).all (aF u)=u.data.toList.map λ b=>Value.int .u8 (b.toNat:Int):=by
   unfold aF;induction u.data.toList with
   |nil=>rfl
   |cons y r ih=>rw[P5,Enc.all_cons,ih];rfl
  rw[e1,OT]at hj;rw[<-hj];have:u.data.toList[j]? =some (u.data.toList.getD j 0):=by
   rw[LW,py (show j<u.data.toList.length from hjl2)];rfl
  rw[this];rfl
 ·intro k hk;simp only[xb,bz,OF]at hk;subst hk;rw[Lib.bytesWorld_size];omega
def ik{α:Type}(E:Enc α)(m:Nat)(hE:E.s=m)(a:α)(i:Nat)(pre rest:List Value)(r:List (Nat×Value))(hp:pre.length=i*m)(hr:m<=rest.length):
  Instr.fill (λ i=>some (i*m,m)) (pre++rest).toArray ((i,E.ag a)::r)=Instr.fill (λ i=>some (i*m,m)) ((pre++E.enc a)++rest.drop m).toArray r:=by
 have hlen:(E.enc a).length=m:=by rw[E.len,hE]
 have hf:=pz (E.enc a) (i*m) pre rest hp (by omega);have hagc:(E.ag a).cells=(E.enc a).toArray:=rfl;rw[Instr.fill];simp only[hagc];rw[OB (by simp[hlen];omega)];congr 1;rw[hlen]at hf;rw[<-hf,<-Array.foldl_toList];have hz:(E.enc a).toArray.zipIdx.toList=(E.enc a).zipIdx:=by simp
 rw[hz];have:∀ (vs:List Value) (k0:Nat) (A:Array Value),(vs.zipIdx k0).foldl (λ(cs:Array Value) (x:Value×Nat)=>cs.setIfInBounds (i*m+x.2) x.1) A=(vs.zipIdx (i*m+k0)).foldl (λ(cs:Array Value) (x:Value×Nat)=>cs.setIfInBounds x.2 x.1) A:=by
  intro vs;induction vs with
  |nil=>intro k0 A;rfl
  |cons v vs ih=>intro k0 A;simp only[zipIdx_cons,Q5];rw[ih (k0+1)];rfl
 exact this (E.enc a) 0 _
def M0{α:Type}(E:Enc α)(m:Nat)(hE:E.s=m)(a b c:α)(zc:Array Value):Instr.fill (λ i=>some (i*m,m)) ((Array.range (3*m)).map (zc[· %zc.size]!)) [(0,E.ag a),(1,E.ag b),(2,E.ag c)]=some (E.all [a,b,c]).toArray:=by
 have e0:(Array.range (3*m)).map (zc[· %zc.size]!)=([]++(List.range (3*m)).map (zc[· %zc.size]!)).toArray:=by
  apply RY;simp
 have hl:∀ x:α,(E.enc x).length=m:=λ x=>by rw[E.len,hE]
 rw[e0,ik E m hE a 0 [] _ _ (by simp) (by simp;omega),ik E m hE b 1 _ _ _ (by simp[hl]) (by simp;omega),ik E m hE c 2 _ _ _ (by simp[hl];omega) (by simp;omega),Instr.fill];have e1:List.drop m (List.drop m (List.drop m ((List.range (3*m)).map (zc[· %zc.size]!))))=[]:=by
  apply P8;simp;omega
 rw[e1,Enc.all_cons,Enc.all_cons,Enc.all_one];simp
def OpE.Am{α:Type}{x y z':Operand}{t e b m:Nat}{z:Value}(E:Enc α)(a b' c:α)(hty:SlTy P t e E.s z b)(hE:E.s=m)(hp:0<m)(hm:3*m<=16777216)(hs:Sat w0 cs w)(hx:aH L x=some (E.ag a))(hy:aH L y=some (E.ag b'))(hz':aH L z'=some (E.ag c))
  (hk:∀ u w',Sat w0 (cs++[cL u e E [a,b',c]]) w'->Chg [] w w'->K u w'):OpE P n L w ⟨d,.buildSlice t 3 #[(0,x),(1,y),(2,z')],ty,pos,af,g⟩ K:=by
 subst hE;have hfill:=M0 E E.s J a b' c;obtain⟨inf,i1,i2,i3,i4⟩:=hty.info;have hz:=hty.zs;refine .val (λ ρ hρ=>?_) (hk (.slice (some ⟨w.heap.size,0,none⟩) 3 3) (w.alloc (.cells (E.all [a,b',c]).toArray e)) ?_ (.alloc _ _))
 ·have hrun:(Instr.buildSlice t 3 #[(0,E.ag a),(1,E.ag b'),(2,E.ag c)]).run P w= .ok (.slice (some ⟨w.heap.size,0,none⟩) 3 3) (w.alloc (.cells (E.all [a,b',c]).toArray e)):=by
   have hf:=hfill z.cells;have h24:¬ 2^24<3*E.s:=by omega
   have h0:¬ (3*E.s:Nat)=0:=by omega
   have h00:¬ (E.s:Nat)=0:=by omega
   have r1:(zeroValue e).run P w= .ok z w:=by simp[zeroValue,typeInfo,i1,i2,go_sem]
   have r2:(sizeOf e).run P w= .ok E.s w:=by simp[sizeOf,typeInfo,i1,i3,go_sem]
   have r3:(newRow e (E.all [a,b',c]).toArray).run P w= .ok ⟨w.heap.size,0,none⟩ (w.alloc (.cells (E.all [a,b',c]).toArray e)):=by simp[newRow,go_sem]
   simp only[Instr.buildSlice,OH hty.und,r2,ON,Ox,RL,h24,h0,h00,Py,r1,OR,hf,r3]
  simp only[execOp,Qe,P5,QS,hρ hx,hρ hy,hρ hz',ON,hrun,Ox,OR]
 ·have h:=hs.ou e E.s 3 3 (E.all [a,b',c]) (by unfold maxLen;omega) (KP _) (by rw[E.all_length];rfl);unfold cL;rw[OA (by rw[E.all_length];exact KP _)]at h;exact h
def fp:Enc (Int×ByteArray×ByteArray×ByteArray):=⟨4,λ x=>[.int .i64 x.1,.string x.2.1,.string x.2.2.1,.string x.2.2.2],λ _=>J,λ x u h=>by simp at h;rcases h with rfl|rfl|rfl|rfl<;>rfl⟩
end
def Nr(P:Program)(t:TypeId):Bool:=
 match P.underlying t with
 |some (.struct fs)=>(match fs.toList with
  | [f0, f1] => f0.name != "_" && f1.name != "_" && f0.offset == 0 && f1.offset == 1
    &&(match P.underlying f0.type with|some .string=>true|_=>false)&&(match P.underlying f1.type with|some .bool=>true|_=>false)
    &&(match P.info? f0.type with|some i=>i.size==1|none=>false)&&(match P.info? f1.type with|some i=>i.size==1|none=>false)
  |_=>false)&& !P.eqGuardType P.depth t&& !P.stoodInHeld t
 |_=>false
section
variable {P:Program} {n:Nat} {L:aA} {w w0:World} {d:Option Nat} {ty:TypeId} {pos:String} {af:Array Edge} {g:Option (Nat×Bool)}
def Ev.N3{x y:Operand}{t xt:TypeId}{a:ByteArray×Bool}(hT:Nr P t=true)(hx:aH L x=some (aE.ag a))(hy:aH L y=some (aE.ag a)):
  Ev P n L w ⟨d,.binOp .neq t x y xt,ty,pos,af,g⟩ (.bool false):=.of λ ρ hρ=>by
 unfold Nr at hT;split at hT
 ·rename_i fs hu
  simp only[OK,R8]at hT;obtain⟨⟨h1,h2⟩,h3⟩:=hT;split at h1
  ·rename_i f0 f1 hfs
   simp only[OK,bne_iff_ne,ne_eq,Qd]at h1;obtain⟨⟨⟨⟨⟨⟨⟨n0,n1⟩,o0⟩,o1⟩,u0⟩,u1⟩,i0⟩,i1⟩:=h1;have hu0:P.underlying f0.type=some .string:=by
    cases hq:P.underlying f0.type with
    |none=>rw[hq]at u0;cases u0
    |some D=>cases D<;>rw[hq]at u0<;>first|rfl|cases u0
   have hu1:P.underlying f1.type=some .bool:=by
    cases hq:P.underlying f1.type with
    |none=>rw[hq]at u1;cases u1
    |some D=>cases D<;>rw[hq]at u1<;>first|rfl|cases u1
   obtain⟨j0,hj0,hs0⟩:∃ i,P.info? f0.type=some i/\i.size=1:=by
    cases hin:P.info? f0.type with
    |none=>rw[hin]at i0;cases i0
    |some i=>rw[hin]at i0;exact⟨i,J,by simpa using i0⟩
   obtain⟨j1,hj1,hs1⟩:∃ i,P.info? f1.type=some i/\i.size=1:=by
    cases hin:P.info? f1.type with
    |none=>rw[hin]at i1;cases i1
    |some i=>rw[hin]at i1;exact⟨i,J,by simpa using i1⟩
   have hfo:P.fieldsOf t=fs:=by unfold Program.fieldsOf;rw[hu]
   have p0:∀ w,(part f0.type (aE.enc a).toArray 0).run P w= .ok (.string a.1) w:=λ w=>by
    simp[part,isAgg,OH hu0,sizeOf,typeInfo,hj0,hs0,aE]
   have p1:∀ w,(part f1.type (aE.enc a).toArray 1).run P w= .ok (.bool a.2) w:=λ w=>by
    simp[part,isAgg,OH hu1,sizeOf,typeInfo,hj1,hs1,aE]
   have he:∀ w,(Op.equalIn 10000 t (.agg (aE.enc a).toArray) (.agg (aE.enc a).toArray)).run P w= .ok true w:=λ w=>by
    rw[show(10000:Nat)=9999+1 from J,run_equalIn_agg w 9999 t _ _ (by rw[hfo];exact hu) h3,hfo,hfs];simp only[Op.eqFields,ne_eq,n0,n1,Se,Qa,o0,o1,ON,p0,p1,Ox,run_equalIn_string w 9998 f0.type _ _ hu0,run_equalIn_bool' w 9998 f1.type _ _ hu1,beq_self_eq_true,RR,Pm,Py,OR]
   have hx':ρ x= .agg (aE.enc a).toArray:=hρ hx;have hy':ρ y= .agg (aE.enc a).toArray:=hρ hy;simp only[execOp,hx',hy',ON,run_eqGuard_agg w .neq t _ _ _ _ h2,Ox,run_neq_struct,he,RR,OR]
  ·cases h1
 ·cases hT
end
def nj{P:Program}{w w':World}(hb:Below w.heap.size w w'){n:String}{cs:Array Value}(h:w.var? P n=some cs):w'.var? P n=some cs:=by
 unfold World.var? at h⊢;cases hg:P.globalNamed n with
 |none=>simp[hg]at h
 |some g=>
  simp only[hg,Option.bind_some]at h⊢;have hlt:g<w.heap.size:=by
   rcases OI g w.heap.size with h'|h'
   ·exact h'
   ·simp[QV h']at h
  rw[hb.block g hlt];exact h
structure GV(P:Program)(g0:Nat)(w:World):Prop where
 mx:∃ m,w.cell? ⟨g0,0,none⟩=some (.int .i64 m)
 tab : Lib.TabIs P w "internal/strconv.uint64pow10" .u64 Lib.pow10Tab
 es : ∃ tp p, w.var? P "strconv.ErrSyntax" = some #[.iface tp p]
 er : ∃ tp p, w.var? P "strconv.ErrRange" = some #[.iface tp p]
theorem GV.NL{P:Program}{g0:Nat}{w w':World}(h:GV P g0 w)(hb:Below w.heap.size w w'):GV P g0 w':=by
 obtain⟨⟨m,hm⟩,h2,⟨t1,p1,h3⟩,⟨t2,p2,h4⟩⟩:=h;exact⟨⟨m,Ext.gE hb _ _ hm⟩,nj hb h2,⟨t1,p1,nj hb h3⟩,⟨t2,p2,nj hb h4⟩⟩
def GV.sat{P:Program}{g0:Nat}{w0 w:World}{cs:List Chunk}(h:GV P g0 w0)(hs:Sat w0 cs w):GV P g0 w:=h.NL hs.old
def Bn(x:List UInt8)(ws:List (List UInt8)):Lib.join (x::ws) [32]=bg x ws:=by
 rw[Lib.join_cons];unfold Lib.joinTail bg;rw[<-flatMap_def];rfl
def RdL.x9{w:World}{v:Value}{l:List ByteArray}(h:RdL w v ah l)(hne:l≠[]):∃ b o c,v= .slice (some ⟨b,o,none⟩) l.length c/\l.length<=c/\b<w.heap.size/\∀ (j:Nat) x,l[j]? =some x->w.cell? ⟨b,o+j,none⟩=some (.string x):=by
 obtain⟨a,cap,rfl,hn,hc⟩:=h;have hall:∀ (j:Nat) x,l[j]? =some x->(ah.all l)[j]? =some (.string x):=λ j x hx=>by
  have:=ah.all_get (off:=0) hx (by decide);rw[PZ,show ah.s=1 from J,PL]at this;rw[this];rfl
 cases l with
 |nil=>exact absurd J hne
 |cons y r=>
  obtain⟨b,o,rfl,h0⟩:=hc 0 _ (hall 0 y J);refine⟨b,o,cap,J,hn,World.block_lt_of_cell? w _ h0,λ j x hx=>?_⟩;obtain⟨b',o',he,hw⟩:=hc j _ (hall j x hx);cases he;exact hw
def Ix(P:Program)(t:TypeId):Prop:=(P.info? t).map (·.size)=some 2
def Iy(P:Program)(t:TypeId):Prop:=liesAt P P.depth t (2/P.cellsOf t) 0 t 1=true
section
variable {P:Program} {n:Nat} {L:aA} {w w0:World} {cs:List Chunk} {d:Option Nat} {ty:TypeId} {pos:String} {af:Array Edge} {g:Option (Nat×Bool)}
def Sat.shape{i b T:Nat}{cells:List Value}(h:Sat w0 cs w)(hi:cs[i]? =some (aw b T cells)):w.shape? b=some (T,cells.length):=by
 have hb:w.heap[b]? =some (.cells cells.toArray T (0,0)):=h.get hi;simp[World.shape?,hb]
def Ev.MW{x:Operand}{s e t T b i:Nat}{cells:List Value}(h1:P.underlying s=some (.pointer t))(h2:P.underlying e=some .unsafePointer)(h3:(P.info? t).map (·.size)=some 2)(hs:Sat w0 cs w)(hi:cs[i]? =some (aw b T cells))(hc:cells.length=2)(hx:aH L x=some (.pointer (some ⟨b,0,none⟩))):
  Ev P n L w ⟨d,.convert s e x,ty,pos,af,g⟩ (.pointer (some ⟨b,0,none⟩)):=.of λ ρ hρ=>by
 obtain⟨j,hj,hjs⟩:=P3.1 h3;have hsh:=hs.shape hi;rw[hc]at hsh;have:=Lib.run_to_unsafe w ⟨b,0,none⟩ h1 h2 hj (by rw[hjs];decide) hsh (Nat.zero_lt_succ 1);simp only[execOp,hρ hx,ON,this,Ox,OR]
def Ev.ME{x:Operand}{s e t b i:Nat}{cells:List Value}(h1:P.underlying s=some .unsafePointer)(h2:P.underlying e=some (.pointer t))(h3:(P.info? t).map (·.size)=some 2)(hl:liesAt P P.depth t (2/P.cellsOf t) 0 t 1=true)(hs:Sat w0 cs w)(hi:cs[i]? =some (aw b t cells))(hc:cells.length=2)(hx:aH L x=some (.pointer (some ⟨b,0,none⟩))):
  Ev P n L w ⟨d,.convert s e x,ty,pos,af,g⟩ (.pointer (some ⟨b,0,none⟩)):=.of λ ρ hρ=>by
 obtain⟨j,hj,hjs⟩:=P3.1 h3;have hsh:=hs.shape hi;rw[hc]at hsh;have:=Lib.run_from_unsafe w ⟨b,0,none⟩ h1 h2 hj hsh hl;simp only[execOp,hρ hx,ON,this,Ox,OR]
def Ev.MP{x : Operand}{f : FuncId}{fn : Func}{ats : Array TypeId}{v : Value}(hf : P.funcs[f]? = some fn)(hn : (fn.name == "runtime.NumGoroutine") = false) (hb : fn.body.isNone = true) (hx' : Extern.findNext fn = none) (he : Extern.find fn = some Extern.AbiNoEscape.same) (hx : aH L x = some v) :
  Ev P n L w ⟨d,.call ⟨.value (.func f),#[x],ats⟩,ty,pos,af,g⟩ v:=.of λ ρ hρ=>by
 have h:=run_callFunc_extern (P:=P) hf hn hb hx' he #[v] w;rw[Lib.run_noEscape,Ox]at h;simp only[execOp,resolve,Qe,P5,QS,hρ hx,Deferred.ofValue,bind,Sem.bind,pure,invoke];have e1:ρ (.func f)= .func (.func f) #[] #[]:=hρ J;simpa[Sem.run,Sem.pure,Sem.bind,e1]using h
def Ev.Li{x y:Operand}{t te xt b o m:Nat}(hu:P.underlying t=some (.pointer te))(h3:(P.info? te).map (·.size)=some m)(hx:aH L x=some (.pointer (some ⟨b,o,none⟩)))(hy:aH L y=some (.pointer (some ⟨b,o,none⟩))):
  Ev P n L w ⟨d,.binOp .neq t x y xt,ty,pos,af,g⟩ (.bool false):=by
 obtain⟨j,hj,_⟩:=P3.1 h3;exact .bin hx hy (by rfl) λ w=>Lib.run_neq_ptr_same (w:=w) ⟨b,o,none⟩ hu hj
end
section
variable {w0 w:World} {cs:List Chunk} {e:Nat}
def nk(e:Nat)(ps:List Pc):Chunk:=iU (ps.map λ p=>cL p.sv.val e ah p.ns)
def Sat.L8(h:Sat w0 cs w)(e:Nat):Sat w0 (cs++[nk e []]) w:=by
 have:Sat w0 (cs++iU []::[]) w:=Sat.fW.2 (by simpa using h);exact this
def Sat.Ik{A:List Chunk}{f:Int}{s:SV}{l:List ByteArray}{ps:List Pc}(h:Sat w0 (A++[cL s.val e ah l]) w)(i:Nat)(hi:A[i]? =some (nk e ps)):Sat w0 (A.set i (nk e (ps++[⟨f,s,l⟩]))) w:=by
 have:=h.push i hi;rw[nk,Pw];exact this
def Sat.J4(h:Sat w0 cs w)(i:Nat){ps:List Pc}(hi:cs[i]? =some (nk e ps)):∀ p∈ps,RdL w p.sv.val ah p.ns:=λ p hp=>
 Rd.nT ((h.get hi).1 (cL p.sv.val e ah p.ns) (Pj hp))
end
