/-
 KY:texts made into bytes;a strings.Builder;literals of three structs;what wraps. Our own text;it names no program.
-/
import Derived.Test.YthffkcnbdehceaaGreatKm
import Derived.Test.YthffkcnbdehceaaGreatKb
import Derived.Test.YthffkcnbdehceaaGreatM42b
import Derived.Lib.ConvBytes
import Derived.Lib.AtoiErrMem
import Derived.Lib.Builder
import Derived.Laws.StructEq
import Derived.Lib.LaidTab
import Derived.Lib.Join
import Derived.Lib.AppendIntMem
import Derived.Laws.Externs
open Go.Proofs.YthffkcnbdehceaaGreat
open List
set_option linter.unusedVariables false
set_option linter.unusedSimpArgs false
set_option linter.unusedSectionVars false
namespace Go.Kw
open Go.RowKit
def Fx {α:Type} (v:Value) (E:Enc α) (l:List α):Chunk where
 foot:=bM v
 holds w:=RdL w v E l
 stable w w' h hc:=by
  obtain ⟨a,cap,rfl,hn,hr⟩:=hc
  refine ⟨a,cap,rfl,hn,λ j u hu=> ?_⟩
  obtain ⟨b,o,rfl,hw⟩:=hr j u hu
  exact ⟨b,o,rfl,(World.cell?_of_block (w:=w) (a:=⟨b,o+j,none⟩) (h b (by simp [bM]))).trans hw⟩
theorem Sat.o3 {α:Type} {w0 w:World} {cs:List Chunk} (h:Sat w0 cs w) {v:Value} {E:Enc α} {l:List α} (i:Nat) (hi:cs[i]? =some (Fx v E l)):RdL w v E l:=h.get hi
section
variable {P:Program} {n:Nat} {L:aB} {w w0:World} {cs:List Chunk} {K:Value->World->Prop} {d:Option Nat} {ty:TypeId} {pos:String} {af:Array Edge} {g:Option (Nat×Bool)}
theorem OpE.gn {x:Operand} {s t e:TypeId} {u:ByteArray} {uT:TypeDesc} (h1:P.underlying s=some uT) (h2:P.underlying t=some (.slice e)) (h3:P.underlying e=some (.int .u8)) (hs:Sat w0 cs w) (hx:aJ L x=some (.string u)) (hu:u.size<=4611686018427387904)
  (hk:∀ v w',Sat w0 (cs++[Fx v (aa .u8) (bF u)]) w'->K v w'):OpE P n L w ⟨d,.convert s t x,ty,pos,af,g⟩ K:=by
 have hb:=Lib.bytesWorld_below w e u
 refine .val (v:= .slice (some ⟨w.heap.size,0,none⟩) u.size (grownCap w u.size 0 e)) (w':=Lib.bytesWorld w e u) (λ ρ hρ=> ?_) (hk (.slice (some ⟨w.heap.size,0,none⟩) u.size (grownCap w u.size 0 e)) _ (hs.add (.o0 hb) ?_ ?_))
 ·simp only [execOp,hρ hx,PS,Lib.run_convert_string_bytes w s t e u h1 h2 h3,PL,PZ]
 ·show RdL _ _ _ _
  refine ⟨_,_,by rw [ay],by rw [ay];exact TT ..,λ j v hj=>⟨w.heap.size,0,rfl,?_⟩⟩
  have hjl:=(AT.1 hj).1
  rw [(aa .u8).all_length,ay] at hjl
  have hjl2:j<u.size:=by have e1:(aa .u8).s=1:=rfl;rw [e1,QJ] at hjl;exact hjl
  rw [Qa,Lib.bytesWorld_cell w e u j hjl2]
  have e1:(aa .u8).all (bF u)=u.data.toList.map λ b=>Value.int .u8 (b.toNat:Int):=by
   unfold bF
   induction u.data.toList with
   |nil=>rfl
   |cons y r ih=>rw [Qm,Enc.all_cons,ih];rfl
  rw [e1,PX] at hj
  rw [<-hj]
  have:u.data.toList[j]? =some (u.data.toList.getD j 0):=by
   rw [KW,py (show j<u.data.toList.length from hjl2)];rfl
  rw [this];rfl
 ·intro k hk
  simp only [Fx,bM,Q0] at hk
  subst hk
  rw [Lib.bytesWorld_size];omega
theorem oA {α:Type} (E:Enc α) (m:Nat) (hE:E.s=m) (a:α) (i:Nat) (pre rest:List Value) (r:List (Nat×Value)) (hp:pre.length=i*m) (hr:m<=rest.length):
  Instr.fill (λ i=>some (i*m,m)) (pre++rest).toArray ((i,E.ag a)::r)=Instr.fill (λ i=>some (i*m,m)) ((pre++E.enc a)++rest.drop m).toArray r:=by
 have hlen:(E.enc a).length=m:=by rw [E.len,hE]
 have hf:=qV (E.enc a) (i*m) pre rest hp (by omega)
 have hagc:(E.ag a).cells=(E.enc a).toArray:=rfl
 rw [Instr.fill]
 simp only [hagc]
 rw [M2 (by simp [hlen];omega)]
 congr 1
 rw [hlen] at hf
 rw [<-hf,<-Array.foldl_toList]
 have hz:(E.enc a).toArray.zipIdx.toList=(E.enc a).zipIdx:=by simp
 rw [hz]
 have:∀ (vs:List Value) (k0:Nat) (A:Array Value),(vs.zipIdx k0).foldl (λ (cs:Array Value) (x:Value×Nat)=>cs.setIfInBounds (i*m+x.2) x.1) A=(vs.zipIdx (i*m+k0)).foldl (λ (cs:Array Value) (x:Value×Nat)=>cs.setIfInBounds x.2 x.1) A:=by
  intro vs
  induction vs with
  |nil=>intro k0 A;rfl
  |cons v vs ih=>intro k0 A;simp only [zipIdx_cons,RG];rw [ih (k0+1)];rfl
 exact this (E.enc a) 0 _
theorem Nj {α:Type} (E:Enc α) (m:Nat) (hE:E.s=m) (a b c:α) (zc:Array Value):Instr.fill (λ i=>some (i*m,m)) ((Array.range (3*m)).map (zc[· %zc.size]!)) [(0,E.ag a),(1,E.ag b),(2,E.ag c)]=some (E.all [a,b,c]).toArray:=by
 have e0:(Array.range (3*m)).map (zc[· %zc.size]!)=([]++(List.range (3*m)).map (zc[· %zc.size]!)).toArray:=by
  apply Array.ext';simp
 have hl:∀ x:α,(E.enc x).length=m:=λ x=>by rw [E.len,hE]
 rw [e0,oA E m hE a 0 [] _ _ (by simp) (by simp;omega),oA E m hE b 1 _ _ _ (by simp [hl]) (by simp;omega),oA E m hE c 2 _ _ _ (by simp [hl];omega) (by simp;omega),Instr.fill]
 have e1:List.drop m (List.drop m (List.drop m ((List.range (3*m)).map (zc[· %zc.size]!))))=[]:=by
  apply QB;simp;omega
 rw [e1,Enc.all_cons,Enc.all_cons,Enc.all_one]
 simp
theorem OpE.Oh {α:Type} {x y z':Operand} {t e b m:Nat} {z:Value} (E:Enc α) (a b' c:α) (hty:SlTy P t e E.s z b) (hE:E.s=m) (hp:0<m) (hm:3*m<=16777216) (hs:Sat w0 cs w) (hx:aJ L x=some (E.ag a)) (hy:aJ L y=some (E.ag b')) (hz':aJ L z'=some (E.ag c))
  (hk:∀ u w',Sat w0 (cs++[cL u e E [a,b',c]]) w'->Chg [] w w'->K u w'):OpE P n L w ⟨d,.buildSlice t 3 #[(0,x),(1,y),(2,z')],ty,pos,af,g⟩ K:=by
 subst hE
 have hfill:=Nj E E.s rfl a b' c
 obtain ⟨inf,i1,i2,i3,i4⟩:=hty.info
 have hz:=hty.zs
 refine .val (λ ρ hρ=> ?_) (hk (.slice (some ⟨w.heap.size,0,none⟩) 3 3) (w.alloc (.cells (E.all [a,b',c]).toArray e)) ?_ (.alloc _ _))
 ·have hrun:(Instr.buildSlice t 3 #[(0,E.ag a),(1,E.ag b'),(2,E.ag c)]).run P w= .ok (.slice (some ⟨w.heap.size,0,none⟩) 3 3) (w.alloc (.cells (E.all [a,b',c]).toArray e)):=by
   have hf:=hfill z.cells
   have h24:¬ 2^24<3*E.s:=by omega
   have h0:¬ (3*E.s:Nat)=0:=by omega
   have h00:¬ (E.s:Nat)=0:=by omega
   have r1:(zeroValue e).run P w= .ok z w:=by simp [zeroValue,typeInfo,i1,i2,go_sem]
   have r2:(sizeOf e).run P w= .ok E.s w:=by simp [sizeOf,typeInfo,i1,i3,go_sem]
   have r3:(newRow e (E.all [a,b',c]).toArray).run P w= .ok ⟨w.heap.size,0,none⟩ (w.alloc (.cells (E.all [a,b',c]).toArray e)):=by simp [newRow,go_sem]
   simp only [Instr.buildSlice,PN hty.und,r2,PS,PL,TD,h24,h0,h00,QP,r1,PZ,hf,r3]
  simp only [execOp,RC,Qm,Sl,hρ hx,hρ hy,hρ hz',PS,hrun,PL,PZ]
 ·have h:=hs.uG e E.s 3 3 (E.all [a,b',c]) (by unfold maxLen;omega) (KB _) (by rw [E.all_length];rfl)
  unfold cL
  rw [PV (by rw [E.all_length];exact KB _)] at h
  exact h
end
section
variable {P:Program} {n:Nat} {L:aB} {w w0:World} {d:Option Nat} {ty:TypeId} {pos:String} {af:Array Edge} {g:Option (Nat×Bool)}
end
section
variable {P:Program} {n:Nat} {L:aB} {w w0:World} {cs:List Chunk} {d:Option Nat} {ty:TypeId} {pos:String} {af:Array Edge} {g:Option (Nat×Bool)}
end
section
variable {w0 w:World} {cs:List Chunk} {e:Nat}
end
end Go.Kw
namespace Go.Kw
def jH (F:List Nat) (Q:World->Prop):Chunk where
 foot:=F
 holds w:=∀ w',(∀ k∈F,w'.heap[k]? =w.heap[k]?)->Q w'
 stable w w' h hc:=λ w'' hk=>hc w'' λ k hm=>(hk k hm).trans (h k hm)
theorem Sat.bV {w0 w:World} {cs:List Chunk} (h:Sat w0 cs w) (i:Nat) {F:List Nat} {Q:World->Prop} (hi:cs[i]? =some (jH F Q)):Q w:=h.get hi w λ _ _=>rfl
def Hs (cs:List Chunk) (w:World):Prop:=∀ c∈cs,c.holds w
theorem Hs.get {cs:List Chunk} {w:World} (h:Hs cs w) {i:Nat} {c:Chunk} (hi:cs[i]? =some c):c.holds w:=h c (PO hi)
theorem Hs.bV {w:World} {cs:List Chunk} (h:Hs cs w) (i:Nat) {F:List Nat} {Q:World->Prop} (hi:cs[i]? =some (jH F Q)):Q w:=h.get hi w λ _ _=>rfl
theorem Hs.ah {α:Type} {w:World} {cs:List Chunk} (h:Hs cs w) {e:Nat} {v:Value} {E:Enc α} {l:List α} (i:Nat) (hi:cs[i]? =some (cL v e E l)):RdL w v E l:=Rd.oZ (h.get hi)
theorem Hs.bt {α:Type} {w:World} {cs:List Chunk} (h:Hs cs w) {e:Nat} {E:Enc α} {ps:List (SV×List α)} (i:Nat) (hi:cs[i]? =some (bh e E ps)):∀ p∈ps,RdL w p.1.val E p.2:=λ p hp=>
 Rd.oZ ((h.get hi).1 (cL p.1.val e E p.2) (Qv hp))
theorem Sat.Ow {w0 w:World} {A B:List Chunk} {Q:World->Prop} (h:Sat w0 (A++B) w) (hq:∀ w',Hs A w'->Q w'):∃ F,Sat w0 (jH F Q::B) w:=by
 refine ⟨A.flatMap (·.foot),h.old,λ c hc=> ?_,?_⟩
 ·rcases PR.1 hc with rfl|hc
  ·refine ⟨λ w' hk=>hq w' λ c hc=>c.stable w w' (λ k hm=>hk k (Re.2 ⟨c,hc,hm⟩)) (h.holds c (R3 _ hc)).1,λ k hk=> ?_⟩
   obtain ⟨c,hc,hm⟩:=Re.1 hk
   exact (h.holds c (R3 _ hc)).2 k hm
  ·exact h.holds c (QQ _ hc)
 ·obtain ⟨_,h2,h3⟩:=R4.1 h.apart
  refine Qd.2 ⟨λ d hd k hk=> ?_,h2⟩
  obtain ⟨c,hc,hm⟩:=Re.1 hk
  exact h3 c hc d hd k hm
theorem Sat.za {w0 w:World} {cs:List Chunk} {Q:World->Prop} (n:Nat) (h:Sat w0 cs w) (hq:∀ w',Hs (cs.take n) w'->Q w'):∃ F,Sat w0 (jH F Q::cs.drop n) w:=
 Sat.Ow (A:=cs.take n) (B:=cs.drop n) (by rw [Qc];exact h) hq
theorem Ev.Of {P:Program} {n:Nat} {L:aB} {w:World} {d:Option Nat} {ty:TypeId} {pos:String} {af:Array Edge} {g:Option (Nat×Bool)} {x:Operand} {T:TypeId} {f off c m:Nat} {v:Value} (hf:lr P T f off=true) (hx:aJ L x=some (bH v c)) (h:OG v m) (hm:0<m):
  Ev P n L w ⟨d,.fieldAddr T x f,ty,pos,af,g⟩ (bH v (c+off)):=by
 obtain ⟨a,cap,rfl,ha⟩:=h
 obtain ⟨bb,o,rfl⟩:=ha hm
 have e1:bH (.slice (some ⟨bb,o,none⟩) m cap) c= .pointer (some ⟨bb,o+c,none⟩):=by simp only [bH,Qu]
 have e2:bH (.slice (some ⟨bb,o,none⟩) m cap) (c+off)= .pointer (some ⟨bb,o+c+off,none⟩):=by simp only [bH,Qu,Rn]
 rw [e2];rw [e1] at hx
 exact Ev.fieldAddr hf hx rfl
theorem Sat.sF {w0 w:World} {cs:List Chunk} {Q:World->Prop} (h:Sat w0 cs w) (hq:∀ w',Q w'):Sat w0 (jH [] Q::cs) w:=by
 refine ⟨h.old,λ c hc=> ?_,Qd.2 ⟨(λ d _ k hk=>by cases hk),h.apart⟩⟩
 rcases PR.1 hc with rfl|hc
 ·exact ⟨λ w' _=>hq w',(λ k hk=>by cases hk)⟩
 ·exact h.holds c hc
theorem Sat.Kj {w0 w:World} {A B cs L:List Chunk} (h:Sat w0 ((A++cs)++B) w) (hp:qY (A++B)=some L):Sat w0 (L++cs) w:=by rw [gA _ _ hp];exact h.wI
theorem Sat.Pa {w0 w:World} {A cs L:List Chunk} {i:Nat} {c:Chunk} (h:Sat w0 ((A++cs).set i c) w) (hi:Nat.blt i A.length=true) (hp:qY (A.set i c)=some L):Sat w0 (L++cs) w:=by
 rw [gA _ _ hp]
 rw [Tr _ _ (by simpa [Tw] using hi)] at h
 exact h
def xO:List Chunk->Nat->Option Chunk
 |c::_,0=>some c
 |_::cs,k+1=>xO cs k
 |[],_=>none
def Af:List Nat->List Chunk->Option (List Chunk)
 |[],_=>some []
 |i::is,A=>match xO A i with
  |some c=>match Af is A with
   |some l=>some (c::l)
   |none=>none
  |none=>none
theorem nc:∀ (A:List Chunk) (i:Nat) (c:Chunk),xO A i=some c->A.getD i pX=c
 |_::_,0,c,h=>by simp only [xO,Rf] at h;simpa using h
 |_::cs,k+1,c,h=>by have:=nc cs k c h;simpa using this
 |[],_,c,h=>by simp [xO] at h
theorem Bq:∀ (is:List Nat) (A L:List Chunk),Af is A=some L->L=is.map (λ i=>A.getD i pX)
 |[],_,L,h=>by simp only [Af,Rf] at h;exact h.symm
 |i::is,A,L,h=>by
  simp only [Af] at h
  split at h
  ·rename_i c hc
   split at h
   ·rename_i l hl
    cases h
    rw [Qm,<-Bq is A l hl,nc A i c hc]
   ·cases h
  ·cases h
theorem Sat.ordN {w0 w:World} {A cs L:List Chunk} (idx:List Nat) (hp:idx.isPerm (List.range idx.length)=true) (h:Sat w0 (A++cs) w) (hl:A.length=idx.length) (hq:Af idx A=some L):Sat w0 (L++cs) w:=by
 rw [Bq _ _ _ hq];exact Sat.order idx hp h hl
theorem Sat.Pp {w0 w:World} {A cs L M:List Chunk} (k:Nat) (h:Sat w0 (A++cs) w) (h1:qY (A.take k)=some L) (h2:qY (A.drop k)=some M):Sat w0 (L++(M++cs)) w:=by
 rw [gA _ _ h1,gA _ _ h2];exact h.cut k
theorem Sat.sG {w0 w:World} {A cs L:List Chunk} (h:Sat w0 (A++cs) w) (is:List Nat) (hp:eZ is 0 A=some L):Sat w0 (L++cs) w:=h.sub ((kR _ _ _ _ hp).append (TB cs))
theorem Sat.o5 {w0 w:World} {A cs T D:List Chunk} {Q:World->Prop} (n:Nat) (h:Sat w0 (A++cs) w) (h1:qY (A.take n)=some T) (h2:qY (A.drop n)=some D) (hq:∀ w',Hs T w'->Q w'):∃ F,Sat w0 ((jH F Q::D)++cs) w:=
 Sat.Ow (A:=T) (B:=D++cs) (by rw [gA _ _ h1,gA _ _ h2];exact h.cut n) hq
theorem Sat.wM {w0 w:World} {A cs:List Chunk} {Q:World->Prop} (h:Sat w0 (A++cs) w) (hq:∀ w',Q w'):Sat w0 ((jH [] Q::A)++cs) w:=Sat.sF h hq
theorem CW.Oy {P:Program} {n:Nat} {N R:aB->World->Prop} {X G:List (Nat×(aB->World->Prop))} {L:aB} {w w0 w1:World} {A A' cs:List Chunk} {id:Nat} {l:List Oper} (is:List Nat) (_hs:Sat w0 (A++cs) w1) (_hp:eZ is 0 A=some A') (p:Plan) (hm:P.follows .mixedOrders=true) (hok:p.yX l=true)
  (h:RP P n l [λ w'=>Sat w0 (A'++cs) w'] p N L w.drew):CW P n (.region id l.toArray true) ⟨N,R,X,G⟩ L w:=CW.draw (λ w'=>Sat w0 (A'++cs) w') p hm hok h
theorem CW.fk {P:Program} {n:Nat} {N R:aB->World->Prop} {X G:List (Nat×(aB->World->Prop))} {L:aB} {w w0 w1:World} {A A1 A2 cs:List Chunk} {id:Nat} {l:List Oper} (is ks:List Nat) (_hs:Sat w0 (A++cs) w1) (_h1:eZ is 0 A=some A1) (h2:eZ ks 0 A1=some A2) (b:Nat) (p:Plan) (hm:P.follows .mixedOrders=true) (hok:p.zd l b=true)
  (h:RP P n l [λ w'=>Sat w0 (A1++cs) w',λ w'=>Sat w0 (A2++cs) w'] p N L w.drew):CW P n (.region id l.toArray true) ⟨N,R,X,G⟩ L w:=CW.Ce (λ w'=>Sat w0 (A1++cs) w') (λ w'=>Sat w0 (A2++cs) w') b p (λ w' h=>h.sG ks h2) hm hok h
theorem k6 {P:Program} {n:Nat} {ops:List Oper} {K:aB->World->Prop} {L:aB} {w w0:World} {SS:List (World->Prop)} {p:Plan} {A B cs:List Chunk} (is:List Nat) (h2:Sat w0 (B++cs) w) (hp:eZ is 0 B=some A) (h:RP P n ops ((λ u=>Sat w0 (B++cs) u)::SS) p K L w):
  ∃ T:World->Prop,(∀ u,T u->(λ u=>Sat w0 (A++cs) u) u)/\T w/\RP P n ops (T::SS) p K L w:=⟨_,λ _ h=>h.sG is hp,h2,h⟩
theorem tQ {P:Program} {n:Nat} {ops:List Oper} {K:aB->World->Prop} {L:aB} {w:World} {S:World->Prop} {SS:List (World->Prop)} {p:Plan} (h2:S w) (h:RP P n ops (S::SS) p K L w):∃ T:World->Prop,(∀ u,T u->S u)/\T w/\RP P n ops (T::SS) p K L w:=⟨S,λ _ h=>h,h2,h⟩
theorem fN {z:Int} {n:Nat} (h:z=(n:Int)):some (Value.int .i64 z)=some (Value.int .i64 (n:Int)):=by rw [h]
end Go.Kw
namespace Go.Kw
open Go.RowKit
class Mx (P:Program):Prop where
 h:P.follows .mixedOrders=true
theorem Ent.mk' {P : Program} {f : FuncId} {fn : Func} (hf : P.funcs[f]? = some fn) (hb : fn.body.isNone = false := by exact rfl) (hn : (fn.name == "runtime.NumGoroutine") = false := by kernel_rfl) : Ent P f := ⟨.of hf hb hn⟩
def pl:List Nat->Plan->Plan
 |[],p=>p
 |k::r,p=>cond (Nat.blt k 1000) (.free k (pl r p)) (.one (k-1000) (pl r p))
section
variable {w0 w w':World} {cs cs' ds A B L:List Chunk}
theorem Sat.nn (h:Sat w0 cs w) (hp:qY cs=some cs':=by exact rfl):Sat w0 cs' w:=h.nf hp
theorem Sat.pk (h:Sat w0 cs w) (is:List Nat) (hp:eZ is 0 cs=some cs':=by exact rfl):Sat w0 cs' w:=h.pick is hp
theorem Sat.pt (h:Sat w0 (A++cs) w) (is:List Nat) (hp:eZ is 0 A=some L:=by exact rfl):Sat w0 (L++cs) w:=h.sG is hp
theorem Sat.mn (h:Sat w0 ((A++cs)++B) w) (hp:qY (A++B)=some L:=by exact rfl):Sat w0 (L++cs) w:=h.Kj hp
theorem Sat.sn {i:Nat} {c:Chunk} (h:Sat w0 ((A++cs).set i c) w) (hi:Nat.blt i A.length=true:=by exact rfl) (hp:qY (A.set i c)=some L:=by exact rfl):Sat w0 (L++cs) w:=h.Pa hi hp
theorem Sat.od (h:Sat w0 (A++cs) w) (idx:List Nat) (hp:idx.isPerm (List.range idx.length)=true:=by decide) (hl:A.length=idx.length:=by exact rfl) (hq:Af idx A=some L:=by exact rfl):Sat w0 (L++cs) w:=Sat.ordN idx hp h hl hq
theorem Sat.oc {M:List Chunk} (h:Sat w0 (A++cs) w) (idx:List Nat) (k:Nat) (hp:idx.isPerm (List.range idx.length)=true:=by decide) (hl:A.length=idx.length:=by exact rfl) (hq:Af idx A=some B:=by exact rfl) (h1:qY (B.take k)=some L:=by exact rfl) (h2:qY (B.drop k)=some M:=by exact rfl):Sat w0 (L++(M++cs)) w:=(Sat.ordN idx hp h hl hq).Pp k h1 h2
end
theorem aT {α:Type} {K:α->aB} {I:α->Prop} {μ:α->Nat} {m:Nat} {L':aB} (x':α) (hI:I x') (hw:(K x').map (λ q=>look L' q.1)=(K x').map (λ q=>some q.2):=by exact rfl) (hm:μ x'<m:=by first|omega|(dsimp only;omega)):∃ x',Weak (K x') L'/\I x'/\μ x'<m:=⟨x',wk hw,hI,hm⟩
section
variable {P:Program} {n:Nat} {N R:aB->World->Prop} {X G:List (Nat×(aB->World->Prop))} {L L0:aB} {w w0:World} {cs cs' A A':List Chunk}
theorem cg {f:FuncId} {fn:Func} {c:Code} {args:List Value} {Φ:Value->World->Prop} (hf:P.funcs[f]? =some fn) (hb:fn.body=some c) (h:Sat w [] w->CW P fn.ntmps c ⟨aL P fn.ntmps fn Φ,aL P fn.ntmps fn Φ,[],[]⟩ (initK args 0) w) (hn:Nat.ble args.length fn.ntmps=true:=by exact rfl):CallsV P f args w Φ:=ai hf hb hn (h (Sat.start w))
theorem CW.lq {c:Code} {α:Type} (ts:List Nat) (h:nb ts L=some L0) (K:α->aB) (I:α->World->Prop) (μ:α->Nat) (x₀:α) (hI:I x₀ w)
  (round:∀ x w,I x w->CW P n c ⟨λ L' w'=>∃ x',Weak (K x'++L0) L'/\I x' w'/\μ x'<μ x,R,X,G⟩ (K x++L0) w) (h0:(K x₀++L0).map (λ q=>look L q.1)=(K x₀++L0).map (λ q=>some q.2):=by exact rfl):CW P n (.loop c) ⟨N,R,X,G⟩ L w:=CW.lp ts h K I μ x₀ (wk h0) hI round
theorem CW.dk [Mx P] {id:Nat} {l:List Oper} (is:List Nat) (hs:Sat w0 cs w) (hp:eZ is 0 cs=some cs') (p:Plan) (h:Sat w0 cs w.drew->Sat w0 cs' w.drew->RP P n l [λ w'=>Sat w0 cs' w'] p N L w.drew) (hok:p.yX l=true:=by kernel_rfl):CW P n (.region id l.toArray true) ⟨N,R,X,G⟩ L w:=
 CW.draw (λ w'=>Sat w0 cs' w') p Mx.h hok (h hs.drew (hs.drew.pick is hp))
theorem CW.dt [Mx P] {id:Nat} {l:List Oper} (is:List Nat) (hs:Sat w0 (A++cs) w) (hp:eZ is 0 A=some A') (p:Plan) (h:Sat w0 (A++cs) w.drew->Sat w0 (A'++cs) w.drew->RP P n l [λ w'=>Sat w0 (A'++cs) w'] p N L w.drew) (hok:p.yX l=true:=by kernel_rfl):CW P n (.region id l.toArray true) ⟨N,R,X,G⟩ L w:=
 CW.draw (λ w'=>Sat w0 (A'++cs) w') p Mx.h hok (h hs.drew (hs.drew.sG is hp))
end
section
variable {P:Program} [Tb P] {n:Nat} {L L':aB} {w w0:World} {d:Option Nat} {ty:TypeId} {pos:String} {af:Array Edge} {g:Option (Nat×Bool)} {ops l r:List Oper} {K:aB->World->Prop} {C:List Prop} {cs ds A M:List Chunk} {f:FuncId} {vs:List Value} {v:Value} {xs:List Operand} {ats:Array TypeId}
theorem RT.cp [he:Ent P f] (k:Nat) (hs:Sat w0 cs w) (hc:CallsV P f vs w λ r w'=>r=v/\Sat w ds w') (h:(ej P n ops k l L,ow L' xs)=(some (⟨d,.call ⟨.value (.func f),xs.toArray,ats⟩,ty,pos,af,g⟩,r,L',C),some vs))
  (hk:∀ w',Sat w0 (cs++ds) w'->RT P n ops r K (putK d v L') w') (hC:All C:=by (repeat (first|exact trivial|refine ⟨by first|rfl|omega|(simp only [IntKind.bits];omega),?_⟩))):RT P n ops l K L w:=RT.c k hc h (by rintro _ w' ⟨rfl,h1⟩;exact hk _ (hs.az h1)) hC
theorem RT.cq [he:Ent P f] (k:Nat) (hs:Sat w0 cs w) (hc:CallsV P f vs w λ r w'=>r=v/\Sat w ds w') (h:(ej P n ops k l L,ow L' xs,qY (cs++ds))=(some (⟨d,.call ⟨.value (.func f),xs.toArray,ats⟩,ty,pos,af,g⟩,r,L',C),some vs,some M))
  (hk:∀ w',Sat w0 M w'->RT P n ops r K (putK d v L') w') (hC:All C:=by (repeat (first|exact trivial|refine ⟨by first|rfl|omega|(simp only [IntKind.bits];omega),?_⟩))):RT P n ops l K L w:=by
 simp only [Q6] at h
 obtain ⟨h1,h2,h3⟩:=h
 exact RT.c k hc (by rw [h1,h2]) (by rintro _ w' ⟨rfl,h1⟩;exact hk _ ((hs.az h1).nf h3)) hC
theorem RT.cm [he:Ent P f] (k:Nat) (hs:Sat w0 (A++cs) w) (hc:CallsV P f vs w λ r w'=>r=v/\Sat w ds w') (h:(ej P n ops k l L,ow L' xs,qY (A++ds))=(some (⟨d,.call ⟨.value (.func f),xs.toArray,ats⟩,ty,pos,af,g⟩,r,L',C),some vs,some M))
  (hk:∀ w',Sat w0 (M++cs) w'->RT P n ops r K (putK d v L') w') (hC:All C:=by (repeat (first|exact trivial|refine ⟨by first|rfl|omega|(simp only [IntKind.bits];omega),?_⟩))):RT P n ops l K L w:=by
 simp only [Q6] at h
 obtain ⟨h1,h2,h3⟩:=h
 exact RT.c k hc (by rw [h1,h2]) (by rintro _ w' ⟨rfl,h1⟩;exact hk _ ((hs.az h1).Kj h3)) hC
end
end Go.Kw
