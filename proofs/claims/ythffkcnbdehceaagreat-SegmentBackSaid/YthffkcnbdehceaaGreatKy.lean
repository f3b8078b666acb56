/-
 KY:texts made into bytes;a strings.Builder;literals of three structs;what wraps. Our own text;it names no program.
-/
import Derived.Test.YthffkcnbdehceaaGreatKm
import Derived.Test.YthffkcnbdehceaaGreatKb
import Derived.Test.YthffkcnbdehceaaGreatM42b
import Derived.Lib.ConvBytes
import Derived.Lib.AtoiErrMem
import Derived.Lib.Builder
import Derived.Laws.StructEq
import Derived.Lib.LaidTab
import Derived.Lib.Join
import Derived.Lib.AppendIntMem
import Derived.Laws.Externs
open List
set_option linter.unusedVariables false
set_option linter.unusedSimpArgs false
set_option linter.unusedSectionVars false
namespace Go.Kw
open Go.RowKit
def Gh {α:Type} (v:Value) (E:Enc α) (l:List α):Chunk where
 foot:=bD v
 holds w:=RdL w v E l
 stable w w' h hc:=by
  obtain ⟨a,cap,rfl,hn,hr⟩:=hc
  refine ⟨a,cap,rfl,hn,λ j u hu=> ?_⟩
  obtain ⟨b,o,rfl,hw⟩:=hr j u hu
  exact ⟨b,o,rfl,(World.cell?_of_block (w:=w) (a:=⟨b,o+j,none⟩) (h b (by simp [bD]))).trans hw⟩
theorem Sat.oH {α:Type} {w0 w:World} {cs:List Chunk} (h:Sat w0 cs w) {v:Value} {E:Enc α} {l:List α} (i:Nat) (hi:cs[i]? =some (Gh v E l)):RdL w v E l:=h.get hi
section
variable {P:Program} {n:Nat} {L:ay} {w w0:World} {cs:List Chunk} {K:Value->World->Prop} {d:Option Nat} {ty:TypeId} {pos:String} {af:Array Edge} {g:Option (Nat×Bool)}
theorem OpE.fw {x:Operand} {s t e:TypeId} {u:ByteArray} {uT:TypeDesc} (h1:P.underlying s=some uT) (h2:P.underlying t=some (.slice e)) (h3:P.underlying e=some (.int .u8)) (hs:Sat w0 cs w) (hx:aI L x=some (.string u)) (hu:u.size<=4611686018427387904)
  (hk:∀ v w',Sat w0 (cs++[Gh v (a8 .u8) (aV u)]) w'->K v w'):OpE P n L w ⟨d,.convert s t x,ty,pos,af,g⟩ K:=by
 have hb:=Lib.bytesWorld_below w e u
 refine .val (v:= .slice (some ⟨w.heap.size,0,none⟩) u.size (grownCap w u.size 0 e)) (w':=Lib.bytesWorld w e u) (λ ρ hρ=> ?_) (hk (.slice (some ⟨w.heap.size,0,none⟩) u.size (grownCap w u.size 0 e)) _ (hs.add (.ko hb) ?_ ?_))
 ·simp only [execOp,hρ hx,Sem.run_bind,Lib.run_convert_string_bytes w s t e u h1 h2 h3,Result.andThen_ok,Sem.run_pure]
 ·show RdL _ _ _ _
  refine ⟨_,_,by rw [az],by rw [az];exact grownCap_ge ..,λ j v hj=>⟨w.heap.size,0,rfl,?_⟩⟩
  have hjl:=(List.getElem?_eq_some_iff.1 hj).1
  rw [(a8 .u8).all_length,az] at hjl
  have hjl2:j<u.size:=by have e1:(a8 .u8).s=1:=rfl;rw [e1,Nat.mul_one] at hjl;exact hjl
  rw [Nat.zero_add,Lib.bytesWorld_cell w e u j hjl2]
  have e1:(a8 .u8).all (aV u)=u.data.toList.map λ b=>Value.int .u8 (b.toNat:Int):=by
   unfold aV
   induction u.data.toList with
   |nil=>rfl
   |cons y r ih=>rw [map_cons,Enc.all_cons,ih];rfl
  rw [e1,getElem?_map] at hj
  rw [<-hj]
  have:u.data.toList[j]? =some (u.data.toList.getD j 0):=by
   rw [getD_eq_getElem?_getD,getElem?_eq_getElem (show j<u.data.toList.length from hjl2)];rfl
  rw [this];rfl
 ·intro k hk
  simp only [Gh,bD,mem_singleton] at hk
  subst hk
  rw [Lib.bytesWorld_size];omega
theorem pj {α:Type} (E:Enc α) (m:Nat) (hE:E.s=m) (a:α) (i:Nat) (pre rest:List Value) (r:List (Nat×Value)) (hp:pre.length=i*m) (hr:m<=rest.length):
  Instr.fill (λ i=>some (i*m,m)) (pre++rest).toArray ((i,E.ag a)::r)=Instr.fill (λ i=>some (i*m,m)) ((pre++E.enc a)++rest.drop m).toArray r:=by
 have hlen:(E.enc a).length=m:=by rw [E.len,hE]
 have hf:=tt (E.enc a) (i*m) pre rest hp (by omega)
 have hagc:(E.ag a).cells=(E.enc a).toArray:=rfl
 rw [Instr.fill]
 simp only [hagc]
 rw [if_neg (by simp [hlen];omega)]
 congr 1
 rw [hlen] at hf
 rw [<-hf,<-Array.foldl_toList]
 have hz:(E.enc a).toArray.zipIdx.toList=(E.enc a).zipIdx:=by simp
 rw [hz]
 have:∀ (vs:List Value) (k0:Nat) (A:Array Value),(vs.zipIdx k0).foldl (λ (cs:Array Value) (x:Value×Nat)=>cs.setIfInBounds (i*m+x.2) x.1) A=(vs.zipIdx (i*m+k0)).foldl (λ (cs:Array Value) (x:Value×Nat)=>cs.setIfInBounds x.2 x.1) A:=by
  intro vs
  induction vs with
  |nil=>intro k0 A;rfl
  |cons v vs ih=>intro k0 A;simp only [zipIdx_cons,foldl_cons];rw [ih (k0+1)];rfl
 exact this (E.enc a) 0 _
theorem NX {α:Type} (E:Enc α) (m:Nat) (hE:E.s=m) (a b c:α) (zc:Array Value):Instr.fill (λ i=>some (i*m,m)) ((Array.range (3*m)).map (zc[· %zc.size]!)) [(0,E.ag a),(1,E.ag b),(2,E.ag c)]=some (E.all [a,b,c]).toArray:=by
 have e0:(Array.range (3*m)).map (zc[· %zc.size]!)=([]++(List.range (3*m)).map (zc[· %zc.size]!)).toArray:=by
  apply Array.ext';simp
 have hl:∀ x:α,(E.enc x).length=m:=λ x=>by rw [E.len,hE]
 rw [e0,pj E m hE a 0 [] _ _ (by simp) (by simp;omega),pj E m hE b 1 _ _ _ (by simp [hl]) (by simp;omega),pj E m hE c 2 _ _ _ (by simp [hl];omega) (by simp;omega),Instr.fill]
 have e1:List.drop m (List.drop m (List.drop m ((List.range (3*m)).map (zc[· %zc.size]!))))=[]:=by
  apply drop_of_length_le;simp;omega
 rw [e1,Enc.all_cons,Enc.all_cons,Enc.all_one]
 simp
theorem OpE.OI {α:Type} {x y z':Operand} {t e b m:Nat} {z:Value} (E:Enc α) (a b' c:α) (hty:SlTy P t e E.s z b) (hE:E.s=m) (hp:0<m) (hm:3*m<=16777216) (hs:Sat w0 cs w) (hx:aI L x=some (E.ag a)) (hy:aI L y=some (E.ag b')) (hz':aI L z'=some (E.ag c))
  (hk:∀ u w',Sat w0 (cs++[cL u e E [a,b',c]]) w'->Chg [] w w'->K u w'):OpE P n L w ⟨d,.buildSlice t 3 #[(0,x),(1,y),(2,z')],ty,pos,af,g⟩ K:=by
 subst hE
 have hfill:=NX E E.s rfl a b' c
 obtain ⟨inf,i1,i2,i3,i4⟩:=hty.info
 have hz:=hty.zs
 refine .val (λ ρ hρ=> ?_) (hk (.slice (some ⟨w.heap.size,0,none⟩) 3 3) (w.alloc (.cells (E.all [a,b',c]).toArray e)) ?_ (.alloc _ _))
 ·have hrun:(Instr.buildSlice t 3 #[(0,E.ag a),(1,E.ag b'),(2,E.ag c)]).run P w= .ok (.slice (some ⟨w.heap.size,0,none⟩) 3 3) (w.alloc (.cells (E.all [a,b',c]).toArray e)):=by
   have hf:=hfill z.cells
   have h24:¬ 2^24<3*E.s:=by omega
   have h0:¬ (3*E.s:Nat)=0:=by omega
   have h00:¬ (E.s:Nat)=0:=by omega
   have r1:(zeroValue e).run P w= .ok z w:=by simp [zeroValue,typeInfo,i1,i2,go_sem]
   have r2:(sizeOf e).run P w= .ok E.s w:=by simp [sizeOf,typeInfo,i1,i3,go_sem]
   have r3:(newRow e (E.all [a,b',c]).toArray).run P w= .ok ⟨w.heap.size,0,none⟩ (w.alloc (.cells (E.all [a,b',c]).toArray e)):=by simp [newRow,go_sem]
   simp only [Instr.buildSlice,run_underlying hty.und,r2,Sem.run_bind,Result.andThen_ok,gt_iff_lt,h24,h0,h00,if_false,r1,Sem.run_pure,hf,r3]
  simp only [execOp,map_toArray,map_cons,map_nil,hρ hx,hρ hy,hρ hz',Sem.run_bind,hrun,Result.andThen_ok,Sem.run_pure]
 ·have h:=hs.wK e E.s 3 3 (E.all [a,b',c]) (by unfold maxLen;omega) (Nat.le_refl _) (by rw [E.all_length];rfl)
  unfold cL
  rw [take_of_length_le (by rw [E.all_length];exact Nat.le_refl _)] at h
  exact h
end
section
variable {P:Program} {n:Nat} {L:ay} {w w0:World} {d:Option Nat} {ty:TypeId} {pos:String} {af:Array Edge} {g:Option (Nat×Bool)}
end
section
variable {P:Program} {n:Nat} {L:ay} {w w0:World} {cs:List Chunk} {d:Option Nat} {ty:TypeId} {pos:String} {af:Array Edge} {g:Option (Nat×Bool)}
end
section
variable {w0 w:World} {cs:List Chunk} {e:Nat}
end
end Go.Kw
namespace Go.Kw
def fa (F:List Nat) (Q:World->Prop):Chunk where
 foot:=F
 holds w:=∀ w',(∀ k∈F,w'.heap[k]? =w.heap[k]?)->Q w'
 stable w w' h hc:=λ w'' hk=>hc w'' λ k hm=>(hk k hm).trans (h k hm)
theorem Sat.aO {w0 w:World} {cs:List Chunk} (h:Sat w0 cs w) (i:Nat) {F:List Nat} {Q:World->Prop} (hi:cs[i]? =some (fa F Q)):Q w:=h.get hi w λ _ _=>rfl
def Hs (cs:List Chunk) (w:World):Prop:=∀ c∈cs,c.holds w
theorem Hs.get {cs:List Chunk} {w:World} (h:Hs cs w) {i:Nat} {c:Chunk} (hi:cs[i]? =some c):c.holds w:=h c (mem_of_getElem? hi)
theorem Hs.aO {w:World} {cs:List Chunk} (h:Hs cs w) (i:Nat) {F:List Nat} {Q:World->Prop} (hi:cs[i]? =some (fa F Q)):Q w:=h.get hi w λ _ _=>rfl
theorem Hs.ah {α:Type} {w:World} {cs:List Chunk} (h:Hs cs w) {e:Nat} {v:Value} {E:Enc α} {l:List α} (i:Nat) (hi:cs[i]? =some (cL v e E l)):RdL w v E l:=Rd.uC (h.get hi)
theorem Hs.eu {α:Type} {w:World} {cs:List Chunk} (h:Hs cs w) {e:Nat} {E:Enc α} {ps:List (SV×List α)} (i:Nat) (hi:cs[i]? =some (bm e E ps)):∀ p∈ps,RdL w p.1.val E p.2:=λ p hp=>
 Rd.uC ((h.get hi).1 (cL p.1.val e E p.2) (mem_map_of_mem hp))
theorem Sat.OY {w0 w:World} {A B:List Chunk} {Q:World->Prop} (h:Sat w0 (A++B) w) (hq:∀ w',Hs A w'->Q w'):∃ F,Sat w0 (fa F Q::B) w:=by
 refine ⟨A.flatMap (·.foot),h.old,λ c hc=> ?_,?_⟩
 ·rcases mem_cons.1 hc with rfl|hc
  ·refine ⟨λ w' hk=>hq w' λ c hc=>c.stable w w' (λ k hm=>hk k (mem_flatMap.2 ⟨c,hc,hm⟩)) (h.holds c (mem_append_left _ hc)).1,λ k hk=> ?_⟩
   obtain ⟨c,hc,hm⟩:=mem_flatMap.1 hk
   exact (h.holds c (mem_append_left _ hc)).2 k hm
  ·exact h.holds c (mem_append_right _ hc)
 ·obtain ⟨_,h2,h3⟩:=pairwise_append.1 h.apart
  refine pairwise_cons.2 ⟨λ d hd k hk=> ?_,h2⟩
  obtain ⟨c,hc,hm⟩:=mem_flatMap.1 hk
  exact h3 c hc d hd k hm
theorem Sat.ik {w0 w:World} {cs:List Chunk} {Q:World->Prop} (n:Nat) (h:Sat w0 cs w) (hq:∀ w',Hs (cs.take n) w'->Q w'):∃ F,Sat w0 (fa F Q::cs.drop n) w:=
 Sat.OY (A:=cs.take n) (B:=cs.drop n) (by rw [take_append_drop];exact h) hq
theorem Ev.P2 {P:Program} {n:Nat} {L:ay} {w:World} {d:Option Nat} {ty:TypeId} {pos:String} {af:Array Edge} {g:Option (Nat×Bool)} {x:Operand} {T:TypeId} {f off c m:Nat} {v:Value} (hf:jJ P T f off=true) (hx:aI L x=some (bE v c)) (h:P8 v m) (hm:0<m):
  Ev P n L w ⟨d,.fieldAddr T x f,ty,pos,af,g⟩ (bE v (c+off)):=by
 obtain ⟨a,cap,rfl,ha⟩:=h
 obtain ⟨bb,o,rfl⟩:=ha hm
 have e1:bE (.slice (some ⟨bb,o,none⟩) m cap) c= .pointer (some ⟨bb,o+c,none⟩):=by simp only [bE,Addr.add_lit]
 have e2:bE (.slice (some ⟨bb,o,none⟩) m cap) (c+off)= .pointer (some ⟨bb,o+c+off,none⟩):=by simp only [bE,Addr.add_lit,Nat.add_assoc]
 rw [e2];rw [e1] at hx
 exact Ev.fieldAddr hf hx rfl
theorem Sat.fO {w0 w:World} {cs:List Chunk} {Q:World->Prop} (h:Sat w0 cs w) (hq:∀ w',Q w'):Sat w0 (fa [] Q::cs) w:=by
 refine ⟨h.old,λ c hc=> ?_,pairwise_cons.2 ⟨(λ d _ k hk=>by cases hk),h.apart⟩⟩
 rcases mem_cons.1 hc with rfl|hc
 ·exact ⟨λ w' _=>hq w',(λ k hk=>by cases hk)⟩
 ·exact h.holds c hc
theorem Sat.KF {w0 w:World} {A B cs L:List Chunk} (h:Sat w0 ((A++cs)++B) w) (hp:tA (A++B)=some L):Sat w0 (L++cs) w:=by rw [gw _ _ hp];exact h.dm
theorem Sat.Pz {w0 w:World} {A cs L:List Chunk} {i:Nat} {c:Chunk} (h:Sat w0 ((A++cs).set i c) w) (hi:Nat.blt i A.length=true) (hp:tA (A.set i c)=some L):Sat w0 (L++cs) w:=by
 rw [gw _ _ hp]
 rw [set_append_left _ _ (by simpa [Nat.blt_eq] using hi)] at h
 exact h
def yQ:List Chunk->Nat->Option Chunk
 |c::_,0=>some c
 |_::cs,k+1=>yQ cs k
 |[],_=>none
def Bh:List Nat->List Chunk->Option (List Chunk)
 |[],_=>some []
 |i::is,A=>match yQ A i with
  |some c=>match Bh is A with
   |some l=>some (c::l)
   |none=>none
  |none=>none
theorem nC:∀ (A:List Chunk) (i:Nat) (c:Chunk),yQ A i=some c->A.getD i rC=c
 |_::_,0,c,h=>by simp only [yQ,Option.some.injEq] at h;simpa using h
 |_::cs,k+1,c,h=>by have:=nC cs k c h;simpa using this
 |[],_,c,h=>by simp [yQ] at h
theorem Cn:∀ (is:List Nat) (A L:List Chunk),Bh is A=some L->L=is.map (λ i=>A.getD i rC)
 |[],_,L,h=>by simp only [Bh,Option.some.injEq] at h;exact h.symm
 |i::is,A,L,h=>by
  simp only [Bh] at h
  split at h
  ·rename_i c hc
   split at h
   ·rename_i l hl
    cases h
    rw [map_cons,<-Cn is A l hl,nC A i c hc]
   ·cases h
  ·cases h
theorem Sat.ordN {w0 w:World} {A cs L:List Chunk} (idx:List Nat) (hp:idx.isPerm (List.range idx.length)=true) (h:Sat w0 (A++cs) w) (hl:A.length=idx.length) (hq:Bh idx A=some L):Sat w0 (L++cs) w:=by
 rw [Cn _ _ _ hq];exact Sat.order idx hp h hl
theorem Sat.PO {w0 w:World} {A cs L M:List Chunk} (k:Nat) (h:Sat w0 (A++cs) w) (h1:tA (A.take k)=some L) (h2:tA (A.drop k)=some M):Sat w0 (L++(M++cs)) w:=by
 rw [gw _ _ h1,gw _ _ h2];exact h.cut k
theorem Sat.ux {w0 w:World} {A cs L:List Chunk} (h:Sat w0 (A++cs) w) (is:List Nat) (hp:eF is 0 A=some L):Sat w0 (L++cs) w:=h.sub ((kH _ _ _ _ hp).append (List.Sublist.refl cs))
theorem Sat.oI {w0 w:World} {A cs T D:List Chunk} {Q:World->Prop} (n:Nat) (h:Sat w0 (A++cs) w) (h1:tA (A.take n)=some T) (h2:tA (A.drop n)=some D) (hq:∀ w',Hs T w'->Q w'):∃ F,Sat w0 ((fa F Q::D)++cs) w:=
 Sat.OY (A:=T) (B:=D++cs) (by rw [gw _ _ h1,gw _ _ h2];exact h.cut n) hq
theorem Sat.xQ {w0 w:World} {A cs:List Chunk} {Q:World->Prop} (h:Sat w0 (A++cs) w) (hq:∀ w',Q w'):Sat w0 ((fa [] Q::A)++cs) w:=Sat.fO h hq
theorem CW.OU {P:Program} {n:Nat} {N R:ay->World->Prop} {X G:List (Nat×(ay->World->Prop))} {L:ay} {w w0 w1:World} {A A' cs:List Chunk} {id:Nat} {l:List Oper} (is:List Nat) (_hs:Sat w0 (A++cs) w1) (_hp:eF is 0 A=some A') (p:Plan) (hm:P.follows .mixedOrders=true) (hok:p.Aj l=true)
  (h:RP P n l [λ w'=>Sat w0 (A'++cs) w'] p N L w.drew):CW P n (.region id l.toArray true) ⟨N,R,X,G⟩ L w:=CW.draw (λ w'=>Sat w0 (A'++cs) w') p hm hok h
theorem CW.fj {P:Program} {n:Nat} {N R:ay->World->Prop} {X G:List (Nat×(ay->World->Prop))} {L:ay} {w w0 w1:World} {A A1 A2 cs:List Chunk} {id:Nat} {l:List Oper} (is ks:List Nat) (_hs:Sat w0 (A++cs) w1) (_h1:eF is 0 A=some A1) (h2:eF ks 0 A1=some A2) (b:Nat) (p:Plan) (hm:P.follows .mixedOrders=true) (hok:p.Ae l b=true)
  (h:RP P n l [λ w'=>Sat w0 (A1++cs) w',λ w'=>Sat w0 (A2++cs) w'] p N L w.drew):CW P n (.region id l.toArray true) ⟨N,R,X,G⟩ L w:=CW.lr (λ w'=>Sat w0 (A1++cs) w') (λ w'=>Sat w0 (A2++cs) w') b p (λ w' h=>h.ux ks h2) hm hok h
theorem jK {P:Program} {n:Nat} {ops:List Oper} {K:ay->World->Prop} {L:ay} {w w0:World} {SS:List (World->Prop)} {p:Plan} {A B cs:List Chunk} (is:List Nat) (h2:Sat w0 (B++cs) w) (hp:eF is 0 B=some A) (h:RP P n ops ((λ u=>Sat w0 (B++cs) u)::SS) p K L w):
  ∃ T:World->Prop,(∀ u,T u->(λ u=>Sat w0 (A++cs) u) u)/\T w/\RP P n ops (T::SS) p K L w:=⟨_,λ _ h=>h.ux is hp,h2,h⟩
theorem la {P:Program} {n:Nat} {ops:List Oper} {K:ay->World->Prop} {L:ay} {w:World} {S:World->Prop} {SS:List (World->Prop)} {p:Plan} (h2:S w) (h:RP P n ops (S::SS) p K L w):∃ T:World->Prop,(∀ u,T u->S u)/\T w/\RP P n ops (T::SS) p K L w:=⟨S,λ _ h=>h,h2,h⟩
theorem fL {z:Int} {n:Nat} (h:z=(n:Int)):some (Value.int .i64 z)=some (Value.int .i64 (n:Int)):=by rw [h]
end Go.Kw
namespace Go.Kw
open Go.RowKit
class Mx (P:Program):Prop where
 h:P.follows .mixedOrders=true
theorem Ent.mk' {P : Program} {f : FuncId} {fn : Func} (hf : P.funcs[f]? = some fn) (hb : fn.body.isNone = false := by exact rfl) (hn : (fn.name == "runtime.NumGoroutine") = false := by kernel_rfl) : Ent P f := ⟨.of hf hb hn⟩
def pl:List Nat->Plan->Plan
 |[],p=>p
 |k::r,p=>cond (Nat.blt k 1000) (.free k (pl r p)) (.one (k-1000) (pl r p))
section
variable {w0 w w':World} {cs cs' ds A B L:List Chunk}
theorem Sat.nn (h:Sat w0 cs w) (hp:tA cs=some cs':=by exact rfl):Sat w0 cs' w:=h.nf hp
theorem Sat.pk (h:Sat w0 cs w) (is:List Nat) (hp:eF is 0 cs=some cs':=by exact rfl):Sat w0 cs' w:=h.pick is hp
theorem Sat.pt (h:Sat w0 (A++cs) w) (is:List Nat) (hp:eF is 0 A=some L:=by exact rfl):Sat w0 (L++cs) w:=h.ux is hp
theorem Sat.mn (h:Sat w0 ((A++cs)++B) w) (hp:tA (A++B)=some L:=by exact rfl):Sat w0 (L++cs) w:=h.KF hp
theorem Sat.sn {i:Nat} {c:Chunk} (h:Sat w0 ((A++cs).set i c) w) (hi:Nat.blt i A.length=true:=by exact rfl) (hp:tA (A.set i c)=some L:=by exact rfl):Sat w0 (L++cs) w:=h.Pz hi hp
theorem Sat.od (h:Sat w0 (A++cs) w) (idx:List Nat) (hp:idx.isPerm (List.range idx.length)=true:=by decide) (hl:A.length=idx.length:=by exact rfl) (hq:Bh idx A=some L:=by exact rfl):Sat w0 (L++cs) w:=Sat.ordN idx hp h hl hq
theorem Sat.oc {M:List Chunk} (h:Sat w0 (A++cs) w) (idx:List Nat) (k:Nat) (hp:idx.isPerm (List.range idx.length)=true:=by decide) (hl:A.length=idx.length:=by exact rfl) (hq:Bh idx A=some B:=by exact rfl) (h1:tA (B.take k)=some L:=by exact rfl) (h2:tA (B.drop k)=some M:=by exact rfl):Sat w0 (L++(M++cs)) w:=(Sat.ordN idx hp h hl hq).PO k h1 h2
end
theorem bc {α:Type} {K:α->ay} {I:α->Prop} {μ:α->Nat} {m:Nat} {L':ay} (x':α) (hI:I x') (hw:(K x').map (λ q=>look L' q.1)=(K x').map (λ q=>some q.2):=by exact rfl) (hm:μ x'<m:=by first|omega|(dsimp only;omega)):∃ x',Weak (K x') L'/\I x'/\μ x'<m:=⟨x',wk hw,hI,hm⟩
section
variable {P:Program} {n:Nat} {N R:ay->World->Prop} {X G:List (Nat×(ay->World->Prop))} {L L0:ay} {w w0:World} {cs cs' A A':List Chunk}
theorem cc {f:FuncId} {fn:Func} {c:Code} {args:List Value} {Φ:Value->World->Prop} (hf:P.funcs[f]? =some fn) (hb:fn.body=some c) (h:Sat w [] w->CW P fn.ntmps c ⟨aK P fn.ntmps fn Φ,aK P fn.ntmps fn Φ,[],[]⟩ (initK args 0) w) (hn:Nat.ble args.length fn.ntmps=true:=by exact rfl):CallsV P f args w Φ:=ae hf hb hn (h (Sat.start w))
theorem CW.lq {c:Code} {α:Type} (ts:List Nat) (h:nA ts L=some L0) (K:α->ay) (I:α->World->Prop) (μ:α->Nat) (x₀:α) (hI:I x₀ w)
  (round:∀ x w,I x w->CW P n c ⟨λ L' w'=>∃ x',Weak (K x'++L0) L'/\I x' w'/\μ x'<μ x,R,X,G⟩ (K x++L0) w) (h0:(K x₀++L0).map (λ q=>look L q.1)=(K x₀++L0).map (λ q=>some q.2):=by exact rfl):CW P n (.loop c) ⟨N,R,X,G⟩ L w:=CW.lp ts h K I μ x₀ (wk h0) hI round
theorem CW.dk [Mx P] {id:Nat} {l:List Oper} (is:List Nat) (hs:Sat w0 cs w) (hp:eF is 0 cs=some cs') (p:Plan) (h:Sat w0 cs w.drew->Sat w0 cs' w.drew->RP P n l [λ w'=>Sat w0 cs' w'] p N L w.drew) (hok:p.Aj l=true:=by kernel_rfl):CW P n (.region id l.toArray true) ⟨N,R,X,G⟩ L w:=
 CW.draw (λ w'=>Sat w0 cs' w') p Mx.h hok (h hs.drew (hs.drew.pick is hp))
theorem CW.dt [Mx P] {id:Nat} {l:List Oper} (is:List Nat) (hs:Sat w0 (A++cs) w) (hp:eF is 0 A=some A') (p:Plan) (h:Sat w0 (A++cs) w.drew->Sat w0 (A'++cs) w.drew->RP P n l [λ w'=>Sat w0 (A'++cs) w'] p N L w.drew) (hok:p.Aj l=true:=by kernel_rfl):CW P n (.region id l.toArray true) ⟨N,R,X,G⟩ L w:=
 CW.draw (λ w'=>Sat w0 (A'++cs) w') p Mx.h hok (h hs.drew (hs.drew.ux is hp))
end
section
variable {P:Program} [Tb P] {n:Nat} {L L':ay} {w w0:World} {d:Option Nat} {ty:TypeId} {pos:String} {af:Array Edge} {g:Option (Nat×Bool)} {ops l r:List Oper} {K:ay->World->Prop} {C:List Prop} {cs ds A M:List Chunk} {f:FuncId} {vs:List Value} {v:Value} {xs:List Operand} {ats:Array TypeId}
theorem RT.cp [he:Ent P f] (k:Nat) (hs:Sat w0 cs w) (hc:CallsV P f vs w λ r w'=>r=v/\Sat w ds w') (h:(e9 P n ops k l L,pf L' xs)=(some (⟨d,.call ⟨.value (.func f),xs.toArray,ats⟩,ty,pos,af,g⟩,r,L',C),some vs))
  (hk:∀ w',Sat w0 (cs++ds) w'->RT P n ops r K (putK d v L') w') (hC:All C:=by (repeat (first|exact trivial|refine ⟨by first|rfl|omega|(simp only [IntKind.bits];omega),?_⟩))):RT P n ops l K L w:=RT.c k hc h (by rintro _ w' ⟨rfl,h1⟩;exact hk _ (hs.aD h1)) hC
theorem RT.cq [he:Ent P f] (k:Nat) (hs:Sat w0 cs w) (hc:CallsV P f vs w λ r w'=>r=v/\Sat w ds w') (h:(e9 P n ops k l L,pf L' xs,tA (cs++ds))=(some (⟨d,.call ⟨.value (.func f),xs.toArray,ats⟩,ty,pos,af,g⟩,r,L',C),some vs,some M))
  (hk:∀ w',Sat w0 M w'->RT P n ops r K (putK d v L') w') (hC:All C:=by (repeat (first|exact trivial|refine ⟨by first|rfl|omega|(simp only [IntKind.bits];omega),?_⟩))):RT P n ops l K L w:=by
 simp only [Prod.mk.injEq] at h
 obtain ⟨h1,h2,h3⟩:=h
 exact RT.c k hc (by rw [h1,h2]) (by rintro _ w' ⟨rfl,h1⟩;exact hk _ ((hs.aD h1).nf h3)) hC
theorem RT.cm [he:Ent P f] (k:Nat) (hs:Sat w0 (A++cs) w) (hc:CallsV P f vs w λ r w'=>r=v/\Sat w ds w') (h:(e9 P n ops k l L,pf L' xs,tA (A++ds))=(some (⟨d,.call ⟨.value (.func f),xs.toArray,ats⟩,ty,pos,af,g⟩,r,L',C),some vs,some M))
  (hk:∀ w',Sat w0 (M++cs) w'->RT P n ops r K (putK d v L') w') (hC:All C:=by (repeat (first|exact trivial|refine ⟨by first|rfl|omega|(simp only [IntKind.bits];omega),?_⟩))):RT P n ops l K L w:=by
 simp only [Prod.mk.injEq] at h
 obtain ⟨h1,h2,h3⟩:=h
 exact RT.c k hc (by rw [h1,h2]) (by rintro _ w' ⟨rfl,h1⟩;exact hk _ ((hs.aD h1).KF h3)) hC
end
end Go.Kw
