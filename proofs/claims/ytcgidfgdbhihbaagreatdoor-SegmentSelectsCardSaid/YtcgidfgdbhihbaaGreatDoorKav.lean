/-
 Kav:elements of slices,new objects,stores,appending,with the run before them;what is found by computing is one fact. Our own text;it names no program.
-/
import Derived.Test.YtcgidfgdbhihbaaGreatDoorKsc
open List renaming length→I,take→J,drop→ww
set_option linter.all false
open Go.Proofs.YtcgidfgdbhihbaaGreatDoor
open List
namespace Go.Kw
open Go.RowKit
section
variable {P:Program} [Tb P] {n:Nat} {L L':aA} {w w0:World} {d:Option Nat} {ty:TypeId} {pos:String} {af:Array Edge} {g:Option (Nat×Bool)} {ops l r:List Oper} {K:aA->World->Prop} {C:List Prop} {cs:List Chunk}
variable {α:Type} {E:Enc α} {ll:List α} {v u:Value} {x i:Operand} {j:Nat} {a:α} {t e b:Nat} {z:Value} {T:TypeId} {kk:IntKind}
def NZ(h:(Tb.sc P).any (Nat.beq T)=true):cX P T=true:=by
 obtain⟨t,H,he⟩:=ZB.1 h;have:=Yw he;subst this;exact Y6.1 (Tb.sok (P:=P)) _ H
def RC{m:Nat}(h:ep (Tb.ag P) T=some m):dF P T m=true:=Y6.1 (Tb.gok (P:=P)) _ (eJ h)
def Je{s:Nat}(h:ep (Tb.sl P) t=some (e,s,z,b)):SlTy P t e s z b:=qJ (Tb.lok (P:=P)) (eJ h)
theorem RT.ix(k:Nat)(D:RdL w v E ll)(h:(fh P n ops k l L,aM L' x,nV L' i,ep (Tb.sl P) t)=(some (⟨d,.indexAddr t x i,ty,pos,af,g⟩,r,L',C),some v,some (kk,j),some (e,E.s,z,b)))
  (A:RT P n ops r K (putK d (bY v (j*E.s)) L') w) (hj:j<I ll:=by omega) (u:All C:=by exact aC9):RT P n ops l K L w:=by
 simp only[XO]at h;obtain⟨H,o,p,q⟩:=h;exact cW H u λ hd y=>RT.ev y hd (.ik (Je q) o (AA p) D hj) A
theorem RT.le(k:Nat)(N:RdL w v E ll)(y:ll[j]? =some a)(h:(fh P n ops k l L,aM L' x,(Tb.sc P).any (Nat.beq T),(E.enc a)[0]?,Nat.blt 0 E.s)=(some (⟨d,.load T x,ty,pos,af,g⟩,r,L',C),some (bY v (j*E.s)),true,some u,true))
  (D:RT P n ops r K (putK d u L') w) (t:All C:=by exact aC9):RT P n ops l K L w:=by
 simp only[XO]at h;obtain⟨H,i,o,p,q⟩:=h;exact cW H t λ hd A=>RT.ev A hd (.Wh (NZ o) i N y (XW q) p) D
theorem RT.lf{off:Nat}(k:Nat)(N:RdL w v E ll)(y:ll[j]? =some a)(h:(fh P n ops k l L,aM L' x,(Tb.sc P).any (Nat.beq T),(E.enc a)[off]?,Nat.blt off E.s)=(some (⟨d,.load T x,ty,pos,af,g⟩,r,L',C),some (bY v (j*E.s+off)),true,some u,true))
  (D:RT P n ops r K (putK d u L') w) (t:All C:=by exact aC9):RT P n ops l K L w:=by
 simp only[XO]at h;obtain⟨H,i,o,p,q⟩:=h;exact cW H t λ hd A=>RT.ev A hd (.W3 (NZ o) i N y (XW q) p) D
theorem RT.lg(k:Nat)(A:RdL w v E ll)(t:ll[j]? =some a)(h:(fh P n ops k l L,aM L' x,ep (Tb.ag P) T,Nat.blt 0 E.s)=(some (⟨d,.load T x,ty,pos,af,g⟩,r,L',C),some (bY v (j*E.s)),some E.s,true))
  (y:RT P n ops r K (putK d (E.ag a) L') w) (q:All C:=by exact aC9):RT P n ops l K L w:=by
 simp only[XO]at h;obtain⟨H,i,o,p⟩:=h;exact cW H q λ hd u=>RT.ev u hd (.QV (RC o) i A t (XW p)) y
theorem RT.fl{f off:Nat}{i:List Nat}(k:Nat)(D:RdL w v E ll)(h:(fh P n ops k l L,aM L' x,ep (Tb.fl P) T,i[f]?,Nat.blt 0 E.s)=(some (⟨d,.fieldAddr T x f,ty,pos,af,g⟩,r,L',C),some (bY v (j*E.s)),some i,some off,true))
  (A:RT P n ops r K (putK d (bY v (j*E.s+off)) L') w) (hj:j<I ll:=by omega) (u:All C:=by exact aC9):RT P n ops l K L w:=by
 simp only[XO]at h;obtain⟨H,o,p,q,t⟩:=h;exact cW H u λ hd y=>RT.ev y hd (.W7 (Tb.PV p q) o D hj (XW t)) A
def RT.bx(k:Nat)(q:Sat w0 cs w)(h:(fh P n ops k l L,aM L' x)=(some (⟨d,.box T x,ty,pos,af,g⟩,r,L',C),some v))
  (p:∀ b w',Sat w0 (cs++[ai b T v.cells.toList]) w'->Chg [] w w'->w.heap.size<=b->RT P n ops r K (putK d (.pointer (some ⟨b,0,none⟩)) L') w') (j:All C:=by exact aC9):RT P n ops l K L w:=by
 simp only[XO]at h;obtain⟨H,i⟩:=h;exact cW H j λ hd o=>RT.MN o hd (.box q i p)
def RT.al(k:Nat)(q:Sat w0 cs w)(h:(fh P n ops k l L,ep (Tb.zr P) T)=(some (⟨d,.alloc T,ty,pos,af,g⟩,r,L',C),some z))
  (p:∀ b w',Sat w0 (cs++[ai b T z.cells.toList]) w'->Chg [] w w'->w.heap.size<=b->RT P n ops r K (putK d (.pointer (some ⟨b,0,none⟩)) L') w') (j:All C:=by exact aC9):RT P n ops l K L w:=by
 simp only[XO]at h;obtain⟨H,i⟩:=h;exact cW H j λ hd o=>RT.MN o hd (.alloc q (xd (Tb.zok (P:=P)) (eJ i)) p)
def oneOf(h:(Tb.sc P).any (Nat.beq T)=true):(P.info? T).map (·.size)=some 1:=by
 obtain⟨t,H,he⟩:=ZB.1 h;have:=Yw he;subst this;exact Hb (Y6.1 (Tb.ook (P:=P)) _ H)
variable {y:Operand} {U:TypeId} {cells vs:List Value} {u0:Value} {bb:Nat}
def RT.st(k:Nat)(q:Sat w0 cs w)(i:Nat)(h:(fh P n ops k l L,aM L' x,aM L' y,cs[i]?,cells[j]?,(Tb.sc P).any (Nat.beq T))=(some (⟨d,.store T x y,ty,pos,af,g⟩,r,L',C),some (.pointer (some ⟨bb,j,none⟩)),some v,some (ai bb U cells),some u0,true))
  (p:∀ w',Sat w0 (cs.set i (ai bb U (cells.set j v))) w'->Chg [bb] w w'->RT P n ops r K (putK d undef L') w') (h1:v.oneCell'=true:=by exact Y) (H:All C:=by exact aC9):RT P n ops l K L w:=by
 simp only[XO]at h;obtain⟨Q,t,u,A,D,E⟩:=h;exact cW Q H λ hd o=>RT.MN o hd (.aG (oneOf E) q A t u h1 D p)
def RT.sa{m:Nat}(k:Nat)(p:Sat w0 cs w)(i:Nat)(h:(fh P n ops k l L,aM L' x,aM L' y,cs[i]?,ep (Tb.ag P) T,I vs,I cells)=(some (⟨d,.store T x y,ty,pos,af,g⟩,r,L',C),some (.pointer (some ⟨bb,0,none⟩)),some (.agg vs.toArray),some (ai bb U cells),some m,m,m))
  (h1:∀ v∈vs,v.oneCell'=true) (o:∀ w',Sat w0 (cs.set i (ai bb U vs)) w'->Chg [bb] w w'->RT P n ops r K (putK d undef L') w') (H:All C:=by exact aC9):RT P n ops l K L w:=by
 simp only[XO]at h;obtain⟨Q,t,u,A,D,q,E⟩:=h;exact cW Q H λ hd j=>RT.MN j hd (.bo (q▸RC D) p A (q.trans E.symm) t u h1 o)
def RT.ap{m:List α}{tx:TypeId}{q:Nat×Nat×Value×Nat}(k:Nat)(D:Sat w0 cs w)(i:Nat)(A:RdL w u E m)(h:(fh P n ops k l L,aM L' x,aM L' y,cs[i]?,ep (Tb.sl P) t,ep (Tb.sl P) tx)=(some (⟨d,.call ⟨.builtin .append,#[x,y],#[t,tx]⟩,ty,pos,af,g⟩,r,L',C),some v,some u,some (cL v e E ll),some (e,E.s,z,b),some q))
  (p:∀ j w',Sat w0 (cs.set i (cL j e E (ll++m))) w'->Chg (ck v) w w'->RT P n ops r K (putK d j L') w') (h1:I ll+I m<=9223372036854775807:=by first|omega|(simp;omega)) (h2:(I ll+I m)*b<=140737488355328:=by first|omega|(simp;omega)) (H:All C:=by exact aC9):RT P n ops l K L w:=by
 simp only[XO]at h;obtain⟨Q,N,R,T,W,X⟩:=h;exact cW Q H λ hd o=>RT.MN o hd (.aD i (Je W) D T N R (Je (e:=q.1) (s:=q.2.1) (z:=q.2.2.1) (b:=q.2.2.2) X).und A h1 h2 p)
end
section
variable {P:Program} [Tb P] {n:Nat} {L L':aA} {w w0:World} {S:World->Prop} {SS:List (World->Prop)} {d:Option Nat} {ty:TypeId} {pos:String} {af:Array Edge} {g:Option (Nat×Bool)} {ops:List Oper} {p q:Plan} {K:aA->World->Prop} {C:List Prop} {bb:Bool}
variable {α:Type} {E:Enc α} {ll:List α} {v u:Value} {x i:Operand} {j:Nat} {a:α} {t e b:Nat} {z:Value} {T:TypeId} {kk:IntKind}
theorem RP.ln{f:Nat×Nat×Value×Nat}(k:Nat)(o:S w)(u:∀ {w'},S w'->RdL w' v E ll)(h:(jo P n ops k p L,aM L' x,ep (Tb.sl P) t)=(some (bb,⟨d,.call ⟨.builtin .len,#[x],#[t]⟩,ty,pos,af,g⟩,q,L',C),some v,some f))
  (r:RP P n ops (S::SS) q K (putK d (.int .i64 (I ll:Int)) L') w) (l:All C:=by exact aC9):RP P n ops (S::SS) p K L w:=by
 simp only[XO]at h;obtain⟨H,i,j⟩:=h;exact gK o H l (λ w' s=>.TT (Je (e:=f.1) (s:=f.2.1) (z:=f.2.2.1) (b:=f.2.2.2) j).und i (u s)) r
theorem RP.ix(k:Nat)(y:S w)(D:∀ {w'},S w'->RdL w' v E ll)(h:(jo P n ops k p L,aM L' x,nV L' i,ep (Tb.sl P) t)=(some (bb,⟨d,.indexAddr t x i,ty,pos,af,g⟩,q,L',C),some v,some (kk,j),some (e,E.s,z,b)))
  (A:RP P n ops (S::SS) q K (putK d (bY v (j*E.s)) L') w) (hj:j<I ll:=by omega) (u:All C:=by exact aC9):RP P n ops (S::SS) p K L w:=by
 simp only[XO]at h;obtain⟨H,l,o,r⟩:=h;exact gK y H u (λ w' s=>.ik (Je r) l (AA o) (D s) hj) A
theorem RP.le(k:Nat)(y:S w)(N:∀ {w'},S w'->RdL w' v E ll)(A:ll[j]? =some a)(h:(jo P n ops k p L,aM L' x,(Tb.sc P).any (Nat.beq T),(E.enc a)[0]?,Nat.blt 0 E.s)=(some (bb,⟨d,.load T x,ty,pos,af,g⟩,q,L',C),some (bY v (j*E.s)),true,some u,true))
  (D:RP P n ops (S::SS) q K (putK d u L') w) (t:All C:=by exact aC9):RP P n ops (S::SS) p K L w:=by
 simp only[XO]at h;obtain⟨H,i,l,o,r⟩:=h;exact gK y H t (λ w' s=>.Wh (NZ l) i (N s) A (XW r) o) D
theorem RP.lf{off:Nat}(k:Nat)(y:S w)(N:∀ {w'},S w'->RdL w' v E ll)(A:ll[j]? =some a)(h:(jo P n ops k p L,aM L' x,(Tb.sc P).any (Nat.beq T),(E.enc a)[off]?,Nat.blt off E.s)=(some (bb,⟨d,.load T x,ty,pos,af,g⟩,q,L',C),some (bY v (j*E.s+off)),true,some u,true))
  (D:RP P n ops (S::SS) q K (putK d u L') w) (t:All C:=by exact aC9):RP P n ops (S::SS) p K L w:=by
 simp only[XO]at h;obtain⟨H,i,l,o,r⟩:=h;exact gK y H t (λ w' s=>.W3 (NZ l) i (N s) A (XW r) o) D
theorem RP.lg(k:Nat)(t:S w)(A:∀ {w'},S w'->RdL w' v E ll)(u:ll[j]? =some a)(h:(jo P n ops k p L,aM L' x,ep (Tb.ag P) T,Nat.blt 0 E.s)=(some (bb,⟨d,.load T x,ty,pos,af,g⟩,q,L',C),some (bY v (j*E.s)),some E.s,true))
  (y:RP P n ops (S::SS) q K (putK d (E.ag a) L') w) (r:All C:=by exact aC9):RP P n ops (S::SS) p K L w:=by
 simp only[XO]at h;obtain⟨H,i,l,o⟩:=h;exact gK t H r (λ w' s=>.QV (RC l) i (A s) u (XW o)) y
theorem RP.fl{f off:Nat}{i:List Nat}(k:Nat)(y:S w)(D:∀ {w'},S w'->RdL w' v E ll)(h:(jo P n ops k p L,aM L' x,ep (Tb.fl P) T,i[f]?,Nat.blt 0 E.s)=(some (bb,⟨d,.fieldAddr T x f,ty,pos,af,g⟩,q,L',C),some (bY v (j*E.s)),some i,some off,true))
  (A:RP P n ops (S::SS) q K (putK d (bY v (j*E.s+off)) L') w) (hj:j<I ll:=by omega) (u:All C:=by exact aC9):RP P n ops (S::SS) p K L w:=by
 simp only[XO]at h;obtain⟨H,l,o,r,t⟩:=h;exact gK y H u (λ w' s=>.W7 (Tb.PV o r) l (D s) hj (XW t)) A
end
class Mx(P:Program):Prop where
 h:P.follows .mixedOrders=true
theorem Ent.mk'{P : Program}{f : FuncId}{fn : Func}(d : P.funcs[f]? = some fn)(H : fn.body.isNone = false := by exact Y)(g : (fn.name == "runtime.NumGoroutine") = false := by kernel_rfl) : Ent P f := ⟨.of d H g⟩
def pl:List Nat->Plan->Plan
 |[],p=>p
 |k::r,p=>cond (Nat.blt k 1000) (.free k (pl r p)) (.one (k-1000) (pl r p))
section
variable {w0 w w':World} {cs cs' ds A B L:List Chunk}
def Sat.nn(h:Sat w0 cs w)(p:tW cs=some cs':=by exact Y):Sat w0 cs' w:=h.nf p
def Sat.pk(h:Sat w0 cs w)(i:List Nat)(p:fj i 0 cs=some cs':=by exact Y):Sat w0 cs' w:=h.pick i p
def Sat.pt(h:Sat w0 (A++cs) w)(i:List Nat)(p:fj i 0 A=some L:=by exact Y):Sat w0 (L++cs) w:=h.gZ i p
def Sat.mn(h:Sat w0 ((A++cs)++B) w)(p:tW (A++B)=some L:=by exact Y):Sat w0 (L++cs) w:=h.PW p
def Sat.sn{i:Nat}{c:Chunk}(h:Sat w0 ((A++cs).set i c) w)(H:Nat.blt i (I A)=true:=by exact Y)(p:tW (A.set i c)=some L:=by exact Y):Sat w0 (L++cs) w:=h.Q2 H p
def Sat.od(h:Sat w0 (A++cs) w)(i:List Nat)(p:i.isPerm (List.range (I i))=true:=by decide)(l:I A=I i:=by exact Y)(q:CZ i A=some L:=by exact Y):Sat w0 (L++cs) w:=Sat.ordN i p h l q
theorem Sat.oc{M:List Chunk}(h:Sat w0 (A++cs) w)(i:List Nat)(k:Nat)(p:i.isPerm (List.range (I i))=true:=by decide)(l:I A=I i:=by exact Y)(q:CZ i A=some B:=by exact Y)(h1:tW (J k B)=some L:=by exact Y)(h2:tW (ww k B)=some M:=by exact Y):Sat w0 (L++(M++cs)) w:=(Sat.ordN i p h l q).WO k h1 h2
end
def aP{α:Type}{K:α->aA}{i:α->Prop}{μ:α->Nat}{m:Nat}{L':aA}(X:α)(H:i X)(hw:(K X).map (λ q=>look L' q.1)=(K X).map (λ q=>some q.2):=by exact Y)(d:μ X<m:=by first|omega|(dsimp only;omega)):∃ X,Weak (K X) L'/\i X/\μ X<m:=⟨X,wk hw,H,d⟩
section
variable {P:Program} {n:Nat} {N R:aA->World->Prop} {X G:List (Nat×(aA->World->Prop))} {L L0:aA} {w w0:World} {cs cs' A A':List Chunk}
def cd{f:FuncId}{fn:Func}{c:Code}{args:List Value}{Φ:Value->World->Prop}(d:P.funcs[f]? =some fn)(H:fn.body=some c)(h:Sat w [] w->CW P fn.ntmps c ⟨aE P fn.ntmps fn Φ,aE P fn.ntmps fn Φ,[],[]⟩ (initK args 0) w)(g:Nat.ble (I args) fn.ntmps=true:=by exact Y):CallsV P f args w Φ:=aa d H g (h (Sat.start w))
def CW.lq{c:Code}{α:Type}(ts:List Nat)(h:pC ts L=some L0)(K:α->aA)(i:α->World->Prop)(μ:α->Nat)(d:α)(H:i d w)
  (r:∀ x w,i x w->CW P n c ⟨λ L' w'=>∃ g,Weak (K g++L0) L'/\i g w'/\μ g<μ x,R,X,G⟩ (K x++L0) w) (h0:(K d++L0).map (λ q=>look L q.1)=(K d++L0).map (λ q=>some q.2):=by exact Y):CW P n (.loop c) ⟨N,R,X,G⟩ L w:=CW.lp ts h K i μ d (wk h0) H r
def CW.dk[Mx P]{id:Nat}{l:List Oper}(i:List Nat)(H:Sat w0 cs w)(d:fj i 0 cs=some cs')(p:Plan)(h:Sat w0 cs w.drew->Sat w0 cs' w.drew->RP P n l [λ w'=>Sat w0 cs' w'] p N L w.drew)(k:p.sg l=true:=by kernel_rfl):CW P n (.region id l.toArray true) ⟨N,R,X,G⟩ L w:=
 CW.draw (λ w'=>Sat w0 cs' w') p Mx.h k (h H.drew (H.drew.pick i d))
theorem CW.dt[Mx P]{id:Nat}{l:List Oper}(i:List Nat)(H:Sat w0 (A++cs) w)(d:fj i 0 A=some A')(p:Plan)(h:Sat w0 (A++cs) w.drew->Sat w0 (A'++cs) w.drew->RP P n l [λ w'=>Sat w0 (A'++cs) w'] p N L w.drew)(k:p.sg l=true:=by kernel_rfl):CW P n (.region id l.toArray true) ⟨N,R,X,G⟩ L w:=
 CW.draw (λ w'=>Sat w0 (A'++cs) w') p Mx.h k (h H.drew (H.drew.gZ i d))
end
section
variable {P:Program} [Tb P] {n:Nat} {L L':aA} {w w0:World} {d:Option Nat} {ty:TypeId} {pos:String} {af:Array Edge} {g:Option (Nat×Bool)} {ops l r:List Oper} {K:aA->World->Prop} {C:List Prop} {cs ds A M:List Chunk} {f:FuncId} {vs:List Value} {v:Value} {xs:List Operand} {ats:Array TypeId}
def RT.cp[he:Ent P f](k:Nat)(p:Sat w0 cs w)(j:CallsV P f vs w λ r w'=>r=v/\Sat w ds w')(h:(fh P n ops k l L,pB L' xs)=(some (⟨d,.call ⟨.value (.func f),xs.toArray,ats⟩,ty,pos,af,g⟩,r,L',C),some vs))
  (o:∀ w',Sat w0 (cs++ds) w'->RT P n ops r K (putK d v L') w') (i:All C:=by exact aC9):RT P n ops l K L w:=RT.c k j h (by rintro _ w' ⟨rfl,H⟩;exact o _ (p.ay H)) i
def RT.cq[he:Ent P f](k:Nat)(t:Sat w0 cs w)(p:CallsV P f vs w λ r w'=>r=v/\Sat w ds w')(h:(fh P n ops k l L,pB L' xs,tW (cs++ds))=(some (⟨d,.call ⟨.value (.func f),xs.toArray,ats⟩,ty,pos,af,g⟩,r,L',C),some vs,some M))
  (q:∀ w',Sat w0 M w'->RT P n ops r K (putK d v L') w') (o:All C:=by exact aC9):RT P n ops l K L w:=by
 simp only[XO]at h;obtain⟨H,i,j⟩:=h;exact RT.c k p (by rw[H,i]) (by rintro _ w' ⟨rfl,H⟩;exact q _ ((t.ay H).nf j)) o
def RT.cm[he:Ent P f](k:Nat)(t:Sat w0 (A++cs) w)(p:CallsV P f vs w λ r w'=>r=v/\Sat w ds w')(h:(fh P n ops k l L,pB L' xs,tW (A++ds))=(some (⟨d,.call ⟨.value (.func f),xs.toArray,ats⟩,ty,pos,af,g⟩,r,L',C),some vs,some M))
  (q:∀ w',Sat w0 (M++cs) w'->RT P n ops r K (putK d v L') w') (o:All C:=by exact aC9):RT P n ops l K L w:=by
 simp only[XO]at h;obtain⟨H,i,j⟩:=h;exact RT.c k p (by rw[H,i]) (by rintro _ w' ⟨rfl,H⟩;exact q _ ((t.ay H).PW j)) o
end
theorem OpE.mono{P:Program}{n:Nat}{L:aA}{w:World}{o:Oper}{K k:Value->World->Prop}(h:OpE P n L w o K)(d:∀ v w',K v w'->k v w'):OpE P n L w o k:=
 λ a H next Q g=>h a H next Q λ v w' i=>g v w' (d v w' i)
def wV:Option Nat->Option Nat->Bool
 |some a,some b=> !Nat.beq a b
 |_,_=>true
def mO{x y:Option Nat}(h:wV x y=true)(v u:Value)(L:aA)(t:Nat):look (putK x v (putK y u L)) t=look (putK y u (putK x v L)) t:=by
 cases x with
 |none=>rfl
 |some a=>
  cases y with
  |none=>rfl
  |some b=>
   simp only[wV,a1d]at h;simp only[putK,look];cases H:Nat.beq a t<;>cases g:Nat.beq b t<;>try rfl
   have E:=Yw H;have d:=Yw g;rw[E,d]at h;simp at h
def RP.ME{P:Program}{n:Nat}{ops:List Oper}{L:aA}{w:World}{K:aA->World->Prop}{S:World->Prop}{SS:List (World->Prop)}{p:Plan}{i j:Nat}{o d:Oper}(V:Value->Value->World->Prop)
  (h:(eK n ops i,eK n ops j,wV o.dst d.dst)=(some o,some d,true))
  (he:OpE P n L w o λ v w'=>S w'/\OpE P n (putK o.dst v L) w' d λ u W=>S W/\V v u W)
  (g:OpE P n L w d λ u w'=>S w'/\OpE P n (putK d.dst u L) w' o λ v W=>S W/\V v u W)
  (D:∀ v u w',V v u w'->RP P n ops (S::SS) p K (putK d.dst u (putK o.dst v L)) w'):RP P n ops (S::SS) (.two i j (.one j p) (.one i p)) K L w:=by
 simp only[XO]at h;obtain⟨y,A,E⟩:=h;have k:=cQ y;have l:=cQ A;refine .two k.1 (dN k.2) (dO k.2) l.1 (dN l.2) (dO l.2) (he.mono λ v w' q=>⟨q.1,.f A (q.2.mono λ u W r=>⟨r.1,D v u W r.2⟩)⟩)
  (g.mono λ u w' q=>⟨q.1,.f y (q.2.mono λ v W r=>⟨r.1,λ a H=>D v u W r.2 a ⟨H.size,λ t x N=>H.slot t x (by rw[mO E];exact N),H.defers⟩⟩)⟩)
def GU{n:Nat}{x y:Option Nat}{v u:Value}{L:aA}{a:Act}(h:wV x y=true)(H:Fits n (putK x v (putK y u L)) a):Fits n (putK y u (putK x v L)) a:=⟨H.size,λ t z d=>H.slot t z (by rw[mO h];exact d),H.defers⟩
def Jf{x:Option Nat}{v:Value}{L L':aA}(h:∀ t,look L t=look L' t)(t:Nat):look (putK x v L) t=look (putK x v L') t:=by
 cases x with
 |none=>exact h t
 |some a=>simp only[putK,look];rw[h t]
def RP.Mf{P:Program}{n:Nat}{ops:List Oper}{L:aA}{w:World}{K:aA->World->Prop}{S:World->Prop}{SS:List (World->Prop)}{p:Plan}{i k j:Nat}{o ok d:Oper}(V:Value->Value->Value->World->Prop)
  (h:(eK n ops i,eK n ops k,eK n ops j,wV o.dst d.dst&&wV ok.dst d.dst)=(some o,some ok,some d,true))
  (he:OpE P n L w o λ v w'=>S w'/\OpE P n (putK o.dst v L) w' ok (λ x W=>S W/\OpE P n (putK ok.dst x (putK o.dst v L)) W d λ u w3=>S w3/\V v x u w3)/\OpE P n (putK o.dst v L) w' d (λ u W=>S W/\OpE P n (putK d.dst u (putK o.dst v L)) W ok λ x w3=>S w3/\V v x u w3))
  (A:OpE P n L w d λ u w'=>S w'/\OpE P n (putK d.dst u L) w' o λ v W=>S W/\OpE P n (putK o.dst v (putK d.dst u L)) W ok λ x w3=>S w3/\V v x u w3)
  (D:∀ v x u w',V v x u w'->RP P n ops (S::SS) p K (putK d.dst u (putK ok.dst x (putK o.dst v L))) w'):RP P n ops (S::SS) (.two i j (.two k j (.one j p) (.one k p)) (.one i (.one k p))) K L w:=by
 simp only[XO,Xz]at h;obtain⟨Q,y,R,X,T⟩:=h;have E:=cQ Q;have N:=cQ y;have g:=cQ R;refine .two E.1 (dN E.2) (dO E.2) g.1 (dN g.2) (dO g.2)
  (he.mono λ v w' q=>⟨q.1,.two N.1 (dN N.2) (dO N.2) g.1 (dN g.2) (dO g.2)
   (q.2.1.mono λ x W r=>⟨r.1,.f R (r.2.mono λ u w3 H=>⟨H.1,D v x u w3 H.2⟩)⟩)
   (q.2.2.mono λ u W r=>⟨r.1,.f y (r.2.mono λ x w3 H=>⟨H.1,λ a l=>D v x u w3 H.2 a (GU T l)⟩)⟩)⟩)
  (A.mono λ u w' q=>⟨q.1,.f Q (q.2.mono λ v W r=>⟨r.1,.f y (r.2.mono λ x w3 H=>⟨H.1,λ a l=>D v x u w3 H.2 a ⟨l.size,λ t z hz=>l.slot t z ?_,l.defers⟩⟩)⟩)⟩)
 rw[Jf (mO X v u L),mO T];exact hz
