/-
 KC:maps from strings to numbers that the call made,ranges over them and over strings,for the program logic of Kw. Our own text;it names no program.
-/
import Derived.Test.YtcgidfgdbhihbaaGreatDoorKm
import Derived.Test.YtcgidfgdbhihbaaGreatDoorM01
import Derived.MapKept
import Derived.Maps.RangeRun
import Derived.RangeFuncLeaves
import Derived.RangeFuncCalls
import Derived.RangeFuncSeq
import Derived.Laws.Concat
import Derived.Lib.SplitLaws
import Derived.Lib.AtoiAll
import Derived.Lib.ItoaNum
import Derived.Lib.ConvBytes
import Derived.Lib.AtoiErrMem
import Derived.Lib.Builder
import Derived.Laws.StructEq
import Derived.Lib.LaidTab
import Derived.Lib.Join
import Derived.Lib.AppendIntMem
import Derived.Laws.Externs
open List renaming length→I,take→J,drop→ww
set_option linter.all false
open Go.Proofs.YtcgidfgdbhihbaaGreatDoor
open List
namespace Go.Kw
open Go.RowKit Go.MapKept
abbrev dD:=List (ByteArray×Nat)
def bA(m:dD):List (Value×Value):=m.map λ p=>(.string p.1,.int .i64 (p.2:Int))
def cV(E:Array MapEntry):List (Value×Value):=E.toList.map λ e=>(e.key,e.val)
def rX(b:Nat)(m:dD):Chunk where
 foot:=[b]
 holds w:=∃ E k,w.heap[b]? =some (.map E k)/\Stamped E k/\cV E=bA m
 stable w w' h hc:=by obtain⟨E,k,H,r⟩:=hc;exact⟨E,k,by rw[h b bw];exact H,r⟩
def CV(b r:Nat)(m done:dD):Chunk where
 foot:=[b,r]
 holds w:=∃ E k seen t,w.heap[b]? =some (.map E k)/\Stamped E k/\cV E=bA m/\w.heap[r]? =some (.mapIter (some b) k seen k)/\
  (leftOf E seen).toList.map (λ e=>(e.key,e.val))=bA t/\(done++t).Perm m/\
  ∀ p,done.getLast? =some p->∃ e∈E.toList,seen.back? =some e.born/\e.key= .string p.1/\e.val= .int .i64 (p.2:Int)
 stable w w' h hc:=by obtain⟨E,k,seen,t,H,d,g,i,j⟩:=hc;exact⟨E,k,seen,t,by rw[h b bw];exact H,d,g,by rw[h r bw];exact i,j⟩
def oh(r:Nat)(s:ByteArray)(i:Nat):Chunk where
 foot:=[r]
 holds w:=w.heap[r]? =some (.stringIter s i)
 stable w w' h hc:=by rw[h r bw];exact hc
def bJ(m:dD):List ByteArray:=m.map (·.1)
def jd(m:dD)(s:ByteArray):Nat:=((m.find? λ p=>decide (p.1=s)).map (·.2)).getD 0
instance(s:ByteArray)(m:dD):Decidable (s∈bJ m):=decidable_of_iff (∃ p∈m,p.1=s) (by simp[bJ])
def vO(m:dD)(s:ByteArray):dD:=if s∈bJ m then m else m++[(s,0)]
def yj(m:dD)(s:ByteArray)(c:Nat):dD:=m.map λ p=>if p.1=s then(p.1,c)else p
def Ee{E:Array MapEntry}{m:dD}(h:cV E=bA m){e:MapEntry}(he:e∈E.toList):∃ s c,e.key= .string s/\e.val= .int .i64 ((c:Nat):Int)/\(s,c)∈m:=by
 have:(e.key,e.val)∈bA m:=by rw[<-h];exact Y7.2 ⟨e,he,Y⟩
 obtain⟨⟨s,c⟩,p,q⟩:=Y7.1 this;simp only[XO]at q;exact⟨s,c,q.1.symm,q.2.symm,p⟩
def Ao{E:Array MapEntry}{m:dD}(h:cV E=bA m):∀ x∈E.toList,IsKey .string x.key:=λ x d=>by
 obtain⟨s,c,H,_⟩:=Ee h d;rw[H];exact trivial
def Ef{E:Array MapEntry}{m:dD}(h:cV E=bA m){j:Nat}{e:MapEntry}(he:E.toList[j]? =some e):∃ p,m[j]? =some p/\e.key= .string p.1/\e.val= .int .i64 (p.2:Int):=by
 have H:(cV E)[j]? =(bA m)[j]? :=by rw[h]
 unfold cV bA at H;rw[XF,XF,he]at H;cases d:m[j]? with
 |none=>rw[d]at H;cases H
 |some p=>rw[d]at H;simp at H;exact⟨p,Y,H.1,H.2⟩
def qH{E:Array MapEntry}{k:Nat}{m:dD}(d:Stamped E k)(h:cV E=bA m):(bJ m).Nodup:=by
 have H:=d.2.2;have e:E.toList.map (·.key)=(bJ m).map Value.string:=by
  have:=If (List.map Prod.fst) h;simpa[cV,bA,bJ,ZT,ZV]using this
 rw[e,List.Nodup,a1y]at H;exact H.imp λ h e=>h (by rw[e])
def O0{m:dD}(k:(bJ m).Nodup){j:Nat}{p:ByteArray×Nat}(hj:m[j]? =some p):jd m p.1=p.2:=by
 induction m generalizing j with
 |nil=>simp at hj
 |cons q r l=>
  obtain⟨g,i⟩:=a2i.1 (show(q.1::bJ r).Nodup from k);cases j with
  |zero=>simp at hj;subst hj;simp[jd]
  |succ j=>
   have H:r[j]? =some p:=a2K
   have d:q.1≠p.1:=λ e=>g (e▸Y7.2 ⟨p,Xs H,Y⟩);have:=l i H;unfold jd at this⊢;rw[YX a0I];exact this
def GV{m:dD}{s:ByteArray}(h:s∉bJ m):jd m s=0:=by
 unfold jd;rw[find?_eq_none.2 λ p H=>by simp;exact λ e=>h (Y7.2 ⟨p,H,e⟩)];rfl
def Jg{m:dD}{s t:ByteArray}{c:Nat}(h:s∈bJ m):jd (yj m s c) t=if t=s then c else jd m t:=by
 unfold jd yj;induction m with
 |nil=>cases h
 |cons p r j=>
  by_cases g:p.1=s
  ·by_cases i:t=s
   ·subst i;rw[XZ,Xp g,a0a a0N,Xp Y];rfl
   ·rw[XZ,Xp g,YX a4a,Xn i,YX a4a];clear j;have:∀ l:dD,(List.find? (λ p=>decide (p.1=t)) (l.map λ p=>if p.1=s then(p.1,c)else p))=List.find? (λ p=>decide (p.1=t)) l:=λ l=>by
     induction l with
     |nil=>rfl
     |cons q l j=>
      rw[XZ];by_cases k:q.1=s
      ·rw[Xp k,YX a4b,YX a4b,j]
      ·rw[Xn k];by_cases d:q.1=t
       ·rw[a0a a0I,a0a a0I]
       ·rw[YX a0I,YX a0I,j]
    rw[this]
  ·have o:s∈bJ r:=by
    rcases Xr.1 (show s∈p.1::bJ r from h)with e|e
    ·exact absurd e.symm g
    ·exact e
   rw[XZ,Xn g];by_cases H:p.1=t
   ·rw[a0a te,a0a te,Xn (λ e=>g (H.trans e))]
   ·rw[YX te,YX te];exact j o
def GW(m:dD)(s:ByteArray)(c:Nat):bJ (yj m s c)=bJ m:=by
 unfold bJ yj;rw[ZT];exact Zl λ p _=>by simp only[Function.comp];split<;>rfl
def wW(m:dD)(s:ByteArray):s∈bJ (vO m s)/\∀ t,t∈bJ (vO m s)↔t=s\/t∈bJ m:=by
 unfold vO;split
 ·rename_i h
  exact⟨h,λ t=>⟨.inr,λ H=>H.elim (λ e=>e▸h) id⟩⟩
 ·refine⟨by simp[bJ],λ t=>?_⟩;simp only[bJ,Y0,XZ,Zy,XE,XJ];exact Or.comm
def Jh(m:dD)(s t:ByteArray):jd (vO m s) t=jd m t:=by
 unfold vO;split
 ·rfl
 ·rename_i h
  unfold jd;rw[find?_append];cases d:m.find? λ p=>decide (p.1=t)with
  |some p=>rfl
  |none=>
   simp only[Option.none_or,a0v,Option.getD_none];by_cases H:s=t
   ·rw[a0a te];rfl
   ·rw[YX te];rfl
def Ap(m:dD)(s:ByteArray):I (vO m s)<=I m+1:=by
 unfold vO;split<;>simp
section
variable {P:Program} {n:Nat} {L:aA} {w w0:World} {cs:List Chunk} {K:Value->World->Prop} {d:Option Nat} {ty:TypeId} {pos:String} {af:Array Edge} {g:Option (Nat×Bool)}
def OpE.makeMap{t:TypeId}(H:Sat w0 cs w)(k:∀ b W,Sat w0 (cs++[rX b []]) W->K (.map (some b)) W):OpE P n L w ⟨d,.makeMap t none,ty,pos,af,g⟩ K:=by
 refine .val (v:=.map (some w.heap.size)) (w':=w.alloc (.map #[] 0)) (λ ρ i=>?_) (k _ _ (H.add (.alloc _ _) ⟨#[],0,Zu w _,stamped_empty 0,Y⟩ (by simp[rX])));simp[execOp,Instr.makeMap,go_sem]
def Ev.U1{x:Operand}{t k e:TypeId}{i b:Nat}{m:dD}(u:P.underlying t=some (.map k e))(q:Sat w0 cs w)(o:cs[i]? =some (rX b m))(y:aM L x=some (.map (some b))):
  Ev P n L w ⟨d,.call ⟨.builtin .len,#[x],#[t]⟩,ty,pos,af,g⟩ (.int .i64 ((I m:Nat):Int)):=.of λ ρ A=>by
 obtain⟨E,j,H,r,l⟩:=q.get o;have p:E.size=I m:=by have:=If List.length l;simpa[cV,bA]using this
 simp[execOp,A y,resolve,invoke,Builtin.len_,Xy u,YV H,go_sem,goInt,p]
def tG{t k e:TypeId}{b:Nat}{E:Array MapEntry}{d:Nat}{m:dD}(K:P.underlying t=some (.map k e))(H:P.underlying k=some .string)(W:(zeroValue e).run P w= .ok (.int .i64 0) w)
  (D:w.heap[b]? =some (.map E d)) (y:Stamped E d) (g:cV E=bA m) (s:ByteArray):
  (Instr.lookup t (.map (some b)) (.string s) false).run P w= .ok (.int .i64 ((jd m s:Nat):Int)) w:=by
 have o:IsKey .string (.string s):=trivial;have R:=qH y g;rcases findNow_spec o E.toList 0 (Ao g)with⟨i,l⟩|⟨j,e0,i,l,h3⟩
 ·have N:jd m s=0:=GV λ Q=>by
   obtain⟨p,q,rfl⟩:=Y7.1 Q;have:(Value.string p.1,Value.int .i64 (p.2:Int))∈cV E:=by rw[g];exact Y7.2 ⟨p,q,Y⟩
   obtain⟨x,T,A⟩:=Y7.1 this;exact l x T (by simpa using If Prod.fst A)
  rw[N];simp[Instr.lookup,Xy K,YV D,ZA H o,ZI H i,W,Result.andThen]
 ·obtain⟨p,q,r,u⟩:=Ef g l;have:p.1=s:=by rw[r]at h3;cases h3;rfl
  subst this;rw[O0 R q];simp[Instr.lookup,Xy K,YV D,ZA H o,ZI H i,u,Result.andThen]
def Ev.lookup{x y:Operand}{t k e:TypeId}{i b:Nat}{m:dD}{s:ByteArray}(A:P.underlying t=some (.map k e))(H:P.underlying k=some .string)(K:∀ w,(zeroValue e).run P w= .ok (.int .i64 0) w)
  (u:Sat w0 cs w) (r:cs[i]? =some (rX b m)) (D:aM L x=some (.map (some b))) (E:aM L y=some (.string s)):
  Ev P n L w ⟨d,.lookup t x y false,ty,pos,af,g⟩ (.int .i64 ((jd m s:Nat):Int)):=.of λ ρ o=>by
 obtain⟨N,j,p,l,q⟩:=u.get r;simp only[execOp,o D,o E,XC,tG A H (K w) p l q s,Xw,XG]
theorem Chg.any{S:List Nat}{w w':World}(h:Chg [] w w'):Chg S w w':=⟨h.os,h.tape,h.output,h.size,λ q H _=>h.block q H bw⟩
def GX{l:List MapEntry}{e:MapEntry}(he:e∈l)(d:(l.map (·.born)).Nodup):(e::l.filter λ x=> !(x.born==e.born)).Perm l:=by
 induction l with
 |nil=>cases he
 |cons y l k=>
  obtain⟨g,i⟩:=a2i.1 (show(y.born::l.map (·.born)).Nodup from d);rcases Xr.1 he with rfl|he
  ·rw[Z2 bw,Z8.2 λ x j=>by
    have:x.born≠e.born:=λ q=>g (q▸Y7.2 ⟨x,j,Y⟩);simpa using this]
  ·have H:y.born≠e.born:=λ q=>g (q▸Y7.2 ⟨e,he,Y⟩);rw[YE te];exact(List.Perm.swap ..).trans ((k he i).cons y)
def mP{b:Nat}{o:Obj}(o':Obj)(H:w.heap[b]? =some o):Chg [b] w {w with heap:=w.heap.setIfInBounds b o'}:=
 ⟨Y,Y,Y,bw,λ k _ d=>(ZK H).2 k a0I⟩
def OpE.rangeMap{x:Operand}{t k e:TypeId}{i b:Nat}{m:dD}(N:P.underlying t=some (.map k e))(A:Sat w0 cs w)(y:cs[i]? =some (rX b m))(Q:aM L x=some (.map (some b)))
  (D:∀ r W,Sat w0 (cs.set i (CV b r m [])) W->K (.pointer (some ⟨r,0,none⟩)) W):OpE P n L w ⟨d,.range t x,ty,pos,af,g⟩ K:=by
 obtain⟨E,j,H,p,u⟩:=A.get y;have l:b<w.heap.size:=(Z5.1 H).1;refine .val (v:=.pointer (some ⟨w.heap.size,0,none⟩)) (w':=w.alloc (.mapIter (some b) j #[] j)) (λ ρ R=>?_)
  (D _ _ (A.set i y (Chg.alloc w _).any
   ⟨E,j,#[],m,((MapKept.heap_alloc w _).2 b l).trans H,p,u,(MapKept.heap_alloc w _).1,?_,bw,bw⟩ ?_))
 ·simp only[execOp,R Q,XC,run_range_map w t k e b E j N H,Xw,XG]
 ·rw[show leftOf E #[]=E from by unfold leftOf;exact Array.filter_eq_self.2 bw];exact u
 ·intro q o;rcases Xr.1 (show q∈[b,w.heap.size]from o)with rfl|o
  ·exact .inl (XJ.2 Y)
  ·refine .inr ?_;have:q=w.heap.size:=a2P
   subst this;exact⟨KM _,bw⟩
def OpE.PY{x:Operand}{i b r:Nat}{m done:dD}(hs:Sat w0 cs w)(hi:cs[i]? =some (CV b r m done))(hx:aM L x=some (.pointer (some ⟨r,0,none⟩)))
  (hd:done.Perm m->K (.tuple #[.bool false]) w)
  (T:∀ s c w',(s,c)∈m->Sat w0 (cs.set i (CV b r m (done++[(s,c)]))) w'->K (.tuple #[.bool true,.string s,.int .i64 ((c:Nat):Int)]) w'):OpE P n L w ⟨d,.next x false,ty,pos,af,g⟩ K:=by
 obtain⟨E,k,seen,j,hb,N,hc,hr,hl,W,_⟩:=hs.get hi;have b3:r≠b:=λ e=>by rw[e,hb]at hr;cases hr
 rcases run_next_at (P:=P) w ty r b k k seen E k hr hb N.1 (KM _)with⟨h0,H⟩|⟨e,he,w1,hal,H⟩
 ·have D:j=[]:=by
   have:=If List.length hl;simp[bA,h0]at this;exact XM this.symm
  subst D;refine .val (λ ρ hρ=>?_) (hd (by simpa using W));simp only[execOp,hρ hx,XC,H,Xw,XG]
 ·obtain⟨a1,b6⟩:=mem_left he;obtain⟨s,c,u,Q,a3⟩:=Ee hc a1;have b7:w1=w\/w1=w.drew:=hal;have b5:w1.heap[r]? =some (.mapIter (some b) k seen k):=by rcases hal with rfl|rfl<;>exact hr
  have a5:w1.heap[b]? =some (.map E k):=by rcases hal with rfl|rfl<;>exact hb
  have t:=ZK (o':=.mapIter (some b) k (seen.push e.born) k) b5;have a4:(ChangeMaps.setBlock w1 r (.mapIter (some b) k (seen.push e.born) k)).heap[b]? =some (.map E k):=(t.2 b (λ X=>b3 X.symm)).trans a5;have y:∃ R,(leftOf E (seen.push e.born)).toList.map (λ e=>(e.key,e.val))=bA R/\((s,c)::R).Perm j:=by
   have A:(e::(leftOf E (seen.push e.born)).toList).Perm (leftOf E seen).toList:=by
    have b2:((leftOf E seen).toList.map (·.born)).Nodup:=by
     have:(leftOf E seen).toList.Sublist E.toList:=by unfold leftOf;rw[a11];exact filter_sublist
     exact N.2.1.sublist (this.map _)
    have X:(leftOf E (seen.push e.born)).toList=(leftOf E seen).toList.filter λ x=> !(x.born==e.born):=by
     unfold leftOf;rw[a11,a11,filter_filter];congr 1;funext x;rw[contains_push];cases seen.contains x.born<;>cases(x.born==e.born)<;>rfl
    rw[X];exact GX he b2
   have T:=A.map (λ e=>(e.key,e.val));rw[hl,XZ,u,Q]at T;have a0:∀ q∈(leftOf E (seen.push e.born)).toList.map (λ e=>(e.key,e.val)),∃ p:ByteArray×Nat,q=(Value.string p.1,Value.int .i64 (p.2:Int)):=λ q hq=>by
    have:=T.subset (Ya _ hq);obtain⟨p,_,rfl⟩:=Y7.1 this;exact⟨p,Y⟩
   have a6:∀ l:List (Value×Value),(∀ q∈l,∃ p:ByteArray×Nat,q=(Value.string p.1,Value.int .i64 (p.2:Int)))->∃ R:dD,l=bA R:=λ l=>by
    induction l with
    |nil=>exact λ _=>⟨[],Y⟩
    |cons a l ih=>
     intro h;obtain⟨p,W⟩:=h a (Yp ..);obtain⟨r',o⟩:=ih λ q hq=>h q (Ya _ hq);exact⟨p::r',by rw[W,o];rfl⟩
   obtain⟨R,o⟩:=a6 _ a0;refine⟨R,o,?_⟩;rw[o]at T;have b1:(bA ((s,c)::R)).Perm (bA j):=T;have a2:∀ a b:dD,(bA a).Perm (bA b)->a.Perm b:=λ a b h=>by
    have:=h.map (λ q:Value×Value=>match q with|(.string s,.int _ z)=>(s,z.toNat)|_=>(ByteArray.empty,0));simpa[bA,ZT,ZV]using this
   exact a2 _ _ b1
  obtain⟨R,a9,b4⟩:=y;refine .val (v:=.tuple #[.bool true,.string s,.int .i64 ((c:Nat):Int)]) (w':=ChangeMaps.setBlock w1 r (.mapIter (some b) k (seen.push e.born) k)) (λ ρ hρ=>?_)
   (T s c _ a3 (hs.set i hi ?_ ⟨E,k,seen.push e.born,R,a4,N,hc,t.1,a9,?_,λ p W=>⟨e,a1,bw,?_⟩⟩ (λ _ h=>.inl h)))
  ·rw[<-u,<-Q];simp only[execOp,hρ hx,XC,H,Xw,XG]
  ·rcases hal with rfl|rfl<;>exact⟨Y,Y,Y,by simp[ChangeMaps.setBlock],λ q _ hq=>t.2 q (λ X=>hq (by rw[X];exact Ya _ (XJ.2 Y)))⟩
  ·refine List.Perm.trans ?_ W;rw[KW];exact b4.append_left done
  ·have:p=(s,c):=by simpa using W.symm
   subst this;exact⟨u,Q⟩
def Ev.entry{x:Operand}{i b r:Nat}{m done:dD}{s:ByteArray}{c:Nat}(A:Sat w0 cs w)(q:cs[i]? =some (CV b r m (done++[(s,c)])))(K:aM L x=some (.pointer (some ⟨r,0,none⟩))):
  Ev P n L w ⟨d,.entry x,ty,pos,af,g⟩ (.tuple #[.string s,.int .i64 ((c:Nat):Int)]):=.of λ ρ N=>by
 obtain⟨E,k,seen,R,o,l,Q,y,T,W,t⟩:=A.get q;obtain⟨e,he,j,u,D⟩:=t (s,c) bw;have p:E.find? (·.born==e.born)=some e:=by rw[<-Array.find?_toList];exact find_born e E.toList l.2.1 he
 have H:(Instr.entry (.pointer (some ⟨r,0,none⟩))).run P w= .ok (.tuple #[e.key,e.val]) w:=by
  simp only[Instr.entry,getObj,XC,Sem.run,y,o,Result.andThen,j,bne_self_eq_false,Yq,Yy,p];rfl
 simp only[execOp,N K,XC,H,Xw,XG,u,D]
def rY(m:dD)(s:ByteArray)(c:Nat):dD:=yj (vO m s) s c
def GY(m:dD)(s:ByteArray)(c:Nat):∀ t,t∈bJ (rY m s c)↔t=s\/t∈bJ m:=λ t=>by
 unfold rY;rw[GW];exact(wW m s).2 t
def Ji(m:dD)(s t:ByteArray)(c:Nat):jd (rY m s c) t=if t=s then c else jd m t:=by
 unfold rY;rw[Jg (wW m s).1,Jh]
def Aq(m:dD)(s:ByteArray)(c:Nat):I (rY m s c)<=I m+1:=by
 unfold rY yj;rw[Xu];exact Ap m s
def OpE.mapUpdate{x y z:Operand}{t k e:TypeId}{i b c:Nat}{m:dD}{s:ByteArray}(hu:P.underlying t=some (.map k e))(u:P.underlying k=some .string)
  (hs:Sat w0 cs w) (hi:cs[i]? =some (rX b m)) (hx:aM L x=some (.map (some b))) (hy:aM L y=some (.string s)) (hz:aM L z=some (.int .i64 ((c:Nat):Int)))
  (hk:∀ w',Sat w0 (cs.set i (rX b (rY m s c))) w'->K undef w'):OpE P n L w ⟨d,.mapUpdate t x y z,ty,pos,af,g⟩ K:=by
 obtain⟨E,l,A,N,T⟩:=hs.get hi;have H:IsKey .string (.string s):=trivial;have hn:=qH N T;rcases findNow_spec H E.toList 0 (Ao T)with⟨h1,X⟩|⟨j,e0,h1,X,h3⟩
 ·have a2:s∉bJ m:=λ hm=>by
   obtain⟨p,hp,rfl⟩:=Y7.1 hm;have:(Value.string p.1,Value.int .i64 (p.2:Int))∈cV E:=by rw[T];exact Y7.2 ⟨p,hp,Y⟩
   obtain⟨x,hx,b1⟩:=Y7.1 this;exact X x hx (by simpa using If Prod.fst b1)
  refine .unit (w':={w with heap:=w.heap.setIfInBounds b (.map (E.push {key:=.string s,val:=.int .i64 ((c:Nat):Int),born:=l}) (l+1))}) (λ ρ Q=>?_)
   (hk _ (hs.set i hi (mP _ A) ⟨_,_,(ZK A).1,stamped_push N X,?_⟩ (λ _ h=>.inl h)))
  ·simp[execOp,Q hx,Q hy,Q hz,Instr.mapUpdate,Xy hu,YV A,ZA u H,ZI u h1,a0o _ A,Result.andThen]
  ·have W:rY m s c=m++[(s,c)]:=by
    unfold rY vO yj;rw[Xn a2,Y0];have:m.map (λ p=>if p.1=s then(p.1,c)else p)=m:=by
     conv=>rhs;rw[<-map_id m]
     exact Zl λ p hp=>Xn λ(e:p.1=s)=>a2 (e▸Y7.2 ⟨p,hp,Y⟩)
    rw[this];simp
   rw[W];simp only[cV,Array.toList_push,Y0,XZ,Zy];rw[show E.toList.map (λ e=>(e.key,e.val))=bA m from T];simp[bA]
 ·obtain⟨p0,D,a3,b2⟩:=Ef T X;have o:p0.1=s:=by rw[a3]at h3;cases h3;rfl
  have hm:s∈bJ m:=o▸Y7.2 ⟨p0,Xs D,Y⟩;have hj:E[j]? =some e0:=by simpa using X
  have a0:e0.key= .string s:=h3;have a5:∀ R,E[j]? =some R->({R with key:=.string s,val:=.int .i64 ((c:Nat):Int)}:MapEntry).key=R.key:=λ R r=>by rw[hj]at r;cases r;exact a0.symm
  refine .unit (w':={w with heap:=w.heap.setIfInBounds b (.map (E.modify j λ e=>{e with key:=.string s,val:=.int .i64 ((c:Nat):Int)}) l)}) (λ ρ Q=>?_)
   (hk _ (hs.set i hi (mP _ A) ⟨_,_,(ZK A).1,stamped_modify N j _ (λ _ _=>Y) (λ R _ r=>a5 R r),?_⟩ (λ _ h=>.inl h)))
  ·simp[execOp,Q hx,Q hy,Q hz,Instr.mapUpdate,Xy hu,YV A,ZA u H,ZI u h1,hj,a0,MapKept.run_keyThatStays H,a0o _ A,Result.andThen]
  ·have W:rY m s c=yj m s c:=by unfold rY vO;rw[Xp hm]
   rw[W];unfold cV bA yj;rw[ZT];apply ZC;intro q;rw[XF,XF,ZS,Z9];have a4:(E[q]?).map (λ e=>(e.key,e.val))=(m[q]?).map λ p=>(Value.string p.1,Value.int .i64 (p.2:Int)):=by
    have:=If (·[q]?) T;simpa[cV,bA,XF]using this
   by_cases hq:j=q
   ·subst hq;rw[Xp Y,hj,D];simp[Function.comp,o]
   ·rw[Xn hq,a4];cases a1:m[q]? with
    |none=>rfl
    |some p=>
     have a6:p.1≠s:=λ e=>by
      have a9:q<I (bJ m):=by have:=(KC.1 a1).1;simpa[bJ]using this
      have W:(bJ m)[q]? =(bJ m)[j]? :=by simp[bJ,a1,D,e,o]
      exact hq ((getElem?_inj a9 hn).1 W).symm
     simp[Function.comp,a6]
def OpE.mI{x:Operand}{t:TypeId}{s:ByteArray}(u:P.underlying t=some .string)(H:Sat w0 cs w)(i:aM L x=some (.string s))
  (k:∀ r W,Sat w0 (cs++[oh r s 0]) W->K (.pointer (some ⟨r,0,none⟩)) W):OpE P n L w ⟨d,.range t x,ty,pos,af,g⟩ K:=by
 refine .val (v:=.pointer (some ⟨w.heap.size,0,none⟩)) (w':=w.alloc (.stringIter s 0)) (λ ρ j=>?_) (k _ _ (H.add (.alloc _ _) (Zu w _) (by simp[oh])));simp[execOp,j i,Instr.range,Xy u,go_sem]
def OpE.qu{x:Operand}{i r j:Nat}{s:ByteArray}(q:Sat w0 cs w)(p:cs[i]? =some (oh r s j))(u:aM L x=some (.pointer (some ⟨r,0,none⟩)))
  (hd:s.size<=j->K (.tuple #[.bool false]) w)
  (y:∀ W,j<s.size->Sat w0 (cs.set i (oh r s (j+(dec (ww j s.data.toList)).2))) W->K (.tuple #[.bool true,.int .i64 ((j:Nat):Int),.int .i32 (((dec (ww j s.data.toList)).1:Nat):Int)]) W):OpE P n L w ⟨d,.next x true,ty,pos,af,g⟩ K:=by
 have H:w.heap[r]? =some (.stringIter s j):=q.get p;have o:(getObj r).run P w= .ok (.stringIter s j) w:=by simp[getObj,Sem.run,H]
 by_cases k:j<s.size
 ·have wa:=D7 s j;refine .val (v:=.tuple #[.bool true,.int .i64 ((j:Nat):Int),.int .i32 (((dec (ww j s.data.toList)).1:Nat):Int)]) (w':={w with heap:=w.heap.setIfInBounds r (.stringIter s (j+(dec (ww j s.data.toList)).2))}) (λ ρ l=>?_)
   (y _ k (q.set i p (mP _ H) (ZK H).1 (λ _ h=>.inl h)))
  have t:(setObj r (.stringIter s (j+(dec (ww j s.data.toList)).2))).run P w= .ok () {w with heap:=w.heap.setIfInBounds r (.stringIter s (j+(dec (ww j s.data.toList)).2))}:=by simp[setObj,Sem.run,H]
  simp[execOp,l u,Instr.next,o,k,wa,t,Result.andThen,goInt]
 ·refine .val (v:=.tuple #[.bool false]) (w':=w) (λ ρ l=>?_) (hd O);simp[execOp,l u,Instr.next,o,k,Result.andThen]
def nE:∀ (x y:List UInt8),Op.bytesLess x y=decide (x<y)
 |[],[]=>by simp[Op.bytesLess]
 |_::_,[]=>by simp[Op.bytesLess]
 |[],_::_=>by simp[Op.bytesLess]
 |a::x,b::y=>by
  have e:(a==b)=decide (a=b):=by by_cases h:a=b<;>simp[h]
  rw[Op.bytesLess,nE x y,e];simp[cons_lt_cons_iff]
def po(a b:ByteArray):Op.bytesLess a.toList b.toList=decide (SLt a b):=by
 rw[nE,ZJ,ZJ];rfl
def Ev.zp{x y:Operand}{t T:TypeId}{a b:ByteArray}(H:aM L x=some (.string a))(i:aM L y=some (.string b)):Ev P n L w ⟨d,.binOp .lss t x y T,ty,pos,af,g⟩ (.bool (decide (SLt a b))):=
 .bin H i a0M λ w=>by rw[binOp_string_lss,po];rfl
def Ev.vD{x y:Operand}{t T:TypeId}{a b:ByteArray}(H:aM L x=some (.string a))(i:aM L y=some (.string b)):Ev P n L w ⟨d,.binOp .geq t x y T,ty,pos,af,g⟩ (.bool (decide (¬ SLt a b))):=
 .bin H i a0M λ w=>by rw[show binOp .geq t (.string a) (.string b)=pure (.bool !(Op.bytesLess a.toList b.toList)) by simp[binOp,Op.stringOp],po];simp
def Ev.TY{x y:Operand}{t T:TypeId}{a b:ByteArray}(H:aM L x=some (.string a))(i:aM L y=some (.string b)):Ev P n L w ⟨d,.binOp .leq t x y T,ty,pos,af,g⟩ (.bool (decide (¬ SLt b a))):=
 .bin H i a0M λ w=>by
  rw[show binOp .leq t (.string a) (.string b)=pure (.bool (Op.bytesLess a.toList b.toList||a.toList==b.toList)) by simp[binOp,Op.stringOp],po,yp];have:(decide (SLt a b)||decide (a=b))=decide (¬ SLt b a):=by
   by_cases h:SLt a b
   ·simp[h,h.Uf]
   ·by_cases e:a=b
    ·subst e;simp[SLt.vJ]
    ·simp[h,e,SLt.ML h e]
  rw[this];rfl
def Ev.Mw{x y:Operand}{t T:TypeId}{a b:ByteArray}(H:aM L x=some (.string a))(i:aM L y=some (.string b)):Ev P n L w ⟨d,.binOp .gtr t x y T,ty,pos,af,g⟩ (.bool (decide (SLt b a))):=
 .bin H i a0M λ w=>by
  rw[show binOp .gtr t (.string a) (.string b)=pure (.bool !(Op.bytesLess a.toList b.toList||a.toList==b.toList)) by simp[binOp,Op.stringOp],po,yp];have:(!(decide (SLt a b)||decide (a=b)))=decide (SLt b a):=by
   by_cases h:SLt a b
   ·simp[h,h.Uf]
   ·by_cases e:a=b
    ·subst e;simp[SLt.vJ]
    ·simp[h,e,SLt.ML h e]
  rw[this];rfl
end
end Go.Kw
namespace Go.Kw
open Go.RowKit
def Mk(D:List Deferred)(a0 a:Act):Prop:=a.tmps=a0.tmps/\a.defers=a0.defers++D
theorem Mk.eval{D:List Deferred}{a0 a:Act}(h:Mk D a0 a):a.eval=a0.eval:=by
 funext x;cases x<;>simp[Act.eval,h.1]
theorem Mk.put{D:List Deferred}{a0 a:Act}(h:Mk D a0 a)(d:Option Nat)(v:Value):Mk D (a0.put d v) (a.put d v):=by
 cases d with
 |none=>exact h
 |some d=>exact⟨by simp[Act.put,h.1],h.2⟩
section
variable {P:Program} {n:Nat} {L:aA} {w:World} {K:aA->World->Prop} {ops:List Oper} {D:List Deferred}
def O1{o:Oper}{a0 a:Act}(h:Mk D a0 a){next N:Act->World->Prop}{Q q:Exit->Act->World->Prop}
  (g:∀ b0 b w,Mk D b0 b->next b0 w->N b w) (i:∀ e b0 b w,Mk D b0 b->Q e b0 w->q e b w) (l:¬ LetsOut Q) {r:Result Next} (H:o.upon P a0 next Q r):o.upon P a N q r:=by
 cases r with
 |ok x j=>
  cases x with
  |value v=>exact g _ _ _ (h.put _ _) H
  |skip=>exact g _ _ _ (h.put _ _) H
  |defer d=>exact g _ _ _ (Mk.put (a0:={a0 with defers:=d::a0.defers}) (a:={a with defers:=d::a.defers}) ⟨h.1,by simp[h.2]⟩ _ _) H
  |enter f A=>
   rw[Oper.upon_enter]at H⊢;refine YS H λ e W he=>?_;cases e with
   |returned v=>exact g _ _ _ (h.put _ _) he
   |panicked c=>exact i _ _ _ _ h he
   |outgrown=>exact absurd he l
  |row row A=>
   rw[Oper.upon_row]at H⊢;exact Rows.mono H λ v W he=>g _ _ _ (h.put _ _) he
  |_=>exact(H:False).elim
 |halt x j=>
  cases x with
  |panic v=>exact i _ _ _ _ h H
  |_=>exact(H:False).elim
def yl:¬ LetsOut (RQ n K):=λ⟨_,_,h⟩=>h
def qI{Q:Exit->Act->World->Prop}(q:∀ e b0 b w,Mk D b0 b->RQ n K e b0 w->Q e b w):∀ (l:List Oper) (a0 a:Act) (w:World),Mk D a0 a->wpList P ops.toArray (RQ n K) l a0 w->wpList P ops.toArray Q l a w
 |[],a0,a,w,h,H=>q _ _ _ _ h H
 |o::r,a0,a,w,h,H=>by
  unfold wpList at H⊢;rw[h.1];split at H
  ·rename_i hw
   rw[Xp hw];rcases H with H|⟨_,H⟩
   ·refine .inl ?_;unfold Oper.wp at H⊢;rw[h.eval];exact O1 h (λ b0 b w d=>qI q r b0 b w d) q yl H
   ·exact absurd H yl
  ·rename_i hw
   rw[Xn hw];exact qI q r _ _ _ (h.put _ _) H
def gE(o:Oper):Bool:=match o.op with| .defer _=>false|_=>true
def CX{o:Oper}(h:gE o=true):∀ c,o.op≠.defer c:=λ c e=>by simp[gE,e]at h
abbrev UG(l:Nat):Fence:=Fence.wide.inRound l
def O2{o:Oper}{a:Act}{next N:Act->World->Prop}{Q:Exit->Act->World->Prop}{g:Fence}{m:Nat}(q:g=Fence.wide\/∃ l,g=UG l)(k:∀ b w,next b w->N b w){r:Result Next}
  (H:o.upon P a next Q r):o.uponIn g m P a N Q r:=by
 have hd:g.depth=none:=by rcases q with rfl|⟨l,rfl⟩<;>rfl
 have p:g.depth.isSome=true->1<=m:=by rw[hd];simp
 have i:∀ {f A j R},Calls P f A j R->CallsIn g (m-1) P f A j R:=λ{f A j R} h=>by
  rcases q with rfl|⟨l,rfl⟩
  ·exact a2j.2 h
  ·exact CallsIn.inRound l (a2j.2 h)
 cases r with
 |ok x j=>
  cases x with
  |value v=>exact k _ _ H
  |skip=>exact k _ _ H
  |defer d=>exact k _ _ H
  |enter f A=>
   rw[Oper.upon_enter]at H;rw[Oper.uponIn_enter];refine⟨p,i (YS H λ e W he=>?_)⟩;cases e with
   |returned v=>exact k _ _ he
   |panicked c=>exact he
   |outgrown=>exact he
  |row row A=>
   rw[Oper.upon_row]at H;rw[Oper.uponIn_row];refine⟨p,λ c cs _=>?_⟩;obtain⟨v,W,u,t⟩:=H c cs;refine⟨v,W,k _ _ u,?_⟩;rcases q with rfl|⟨l,rfl⟩
   ·exact stepsIn_wide.2 t
   ·have:StepsIn (Machine.fenced P Fence.wide) P (lone (Frame.ofRow P row A .normal) (c::cs) j) (lone (c.finish v) cs W):=stepsIn_wide.2 t;rwa[<-fenced_inRound P Fence.wide l]at this
  |_=>exact(H:False).elim
 |halt x j=>
  cases x with
  |panic v=>exact H
  |_=>exact(H:False).elim
def om{o:Oper}{a:Act}{next N:Act->World->Prop}{Q:Exit->Act->World->Prop}{d:Fence}{m:Nat}(g:d=Fence.wide\/∃ l,d=UG l)(hd:gE o=true)(i:∀ b w,next b w->N b w)
  (H:o.wp P a w next Q):o.wpIn d m P a w N Q:=by
 refine⟨λ f _=>by rcases g with rfl|⟨l,rfl⟩<;>trivial,?_⟩;rw[Oper.semAt_eq _ _ _ (CX hd)];exact O2 g i H
def lT{d:Fence}{m:Nat}(g:d=Fence.wide\/∃ l,d=UG l):∀ (l:List Oper) (a:Act) (w:World),l.all gE=true->wpList P ops.toArray (RQ n K) l a w->wpListIn d m P ops.toArray (RQ n K) l a w
 |[],a,w,_,H=>H
 |o::r,a,w,hd,H=>by
  rw[List.all_cons,Xz]at hd;unfold wpList at H;unfold wpListIn;split at H
  ·rename_i hw
   rw[Xp hw];rcases H with H|⟨_,H⟩
   ·exact om g hd.1 (λ b w i=>lT g r b w hd.2 i) H
   ·exact absurd H yl
  ·rename_i hw
   rw[Xn hw];exact⟨λ f _=>by rcases g with rfl|⟨l,rfl⟩<;>trivial,lT g r _ _ hd.2 H⟩
end
def CWR(l:Nat)(P:Program)(n:Nat)(c:Code)(Q:Qs)(L:aA)(w:World):Prop:=∀ a,Fits n L a->c.wpIn (UG l) 0 P (RR n Q) a w
section
variable {lp:Nat} {P:Program} {n:Nat} {N R:aA->World->Prop} {X G:List (Nat×(aA->World->Prop))} {L:aA} {w:World}
theorem CWR.weaken{c:Code}{Q:Qs}(l:aA)(hw:Weak l L)(h:CWR lp P n c Q l w):CWR lp P n c Q L w:=λ a H=>h a (H.weaken hw)
theorem CWR.skip(h:N L w):CWR lp P n .skip ⟨N,R,X,G⟩ L w:=λ _ H=>wpIn_skip ⟨L,H,h⟩
theorem CWR.ret(h:R L w):CWR lp P n .ret ⟨N,R,X,G⟩ L w:=λ _ H=>wpIn_ret ⟨L,H,h⟩
theorem CWR.seq{x y:Code}(h:CWR lp P n x ⟨λ L w=>CWR lp P n y ⟨N,R,X,G⟩ L w,R,X,G⟩ L w):CWR lp P n (.seq x y) ⟨N,R,X,G⟩ L w:=λ a d=>
 wpIn_seq (a07 (h a d) λ e A W q=>by
  cases e<;>first|(obtain⟨l,H,g⟩:=q;exact g A H)|exact q)
theorem CWR.cond{c:Operand}{x y:Code}{b:Bool}(d:aM L c=some (.bool b))(t:b=true->CWR lp P n x ⟨N,R,X,G⟩ L w)(g:b=false->CWR lp P n y ⟨N,R,X,G⟩ L w):CWR lp P n (.cond c x y) ⟨N,R,X,G⟩ L w:=
 λ a H=>wpIn_cond_split (H.eval d) (λ h=>t h a H) (λ h=>g h a H)
theorem CWR.ab{c:Operand}{x y:Code}{p:Prop}{dp:Decidable p}(H:aM L c=some (.bool (@decide p dp)))(t:p->CWR lp P n x ⟨N,R,X,G⟩ L w)(d:¬ p->CWR lp P n y ⟨N,R,X,G⟩ L w):CWR lp P n (.cond c x y) ⟨N,R,X,G⟩ L w:=
 CWR.cond H (λ h=>t (XR h)) (λ h=>d (YY h))
theorem CWR.block{id:Nat}{c:Code}(h:CWR lp P n c ⟨N,R,(id,N)::X,G⟩ L w):CWR lp P n (.block id c) ⟨N,R,X,G⟩ L w:=λ a j=>
 wpIn_block (a07 (h a j) λ e A W q=>by
  cases e with
  |exit i=>
   obtain⟨d,g,H⟩:=q;simp only[cS]at H;simp only[Exit.inBlock];by_cases hid:i=id
   ·subst hid;rw[Xp Y]at H⊢;exact⟨d,g,H⟩
   ·rw[Xn hid];rw[Xn (λ e=>hid e.symm)]at H;exact⟨d,g,H⟩
  |normal=>exact q
  |ret=>exact q
  |goto l=>exact q
  |panic c=>exact q
  |outgrown=>exact q)
theorem CWR.region{id:Nat}{l:List Oper}(hd:l.all gE=true:=by rfl)(h:RT P n l l N L w):CWR lp P n (.region id l.toArray false) ⟨N,R,X,G⟩ L w:=λ a H=>
 a07 (wpIn_region_lit (lT (.inr ⟨lp,Y⟩) l a w hd (h a H))) (RQ.lift (Q:=⟨N,R,X,G⟩))
end
def YieldV(P:Program)(l:Nat)(args:List Value)(w:World)(Φ:Bool->World->Prop):Prop:=
 YieldAt Fence.wide 0 P l args.toArray w λ e W=>∃ b,e= .returned (.bool b)/\Φ b W
def RTI(P:Program)(n:Nat)(ops:List Oper)(l:List Oper)(K:aA->World->Prop)(L:aA)(w:World):Prop:=
 ∀ a,Fits n L a->wpListIn Fence.wide 1 P ops.toArray (RQ n K) l a w
section
variable {P:Program} {n:Nat} {Q:Qs} {L:aA} {w:World} {K:aA->World->Prop} {ops:List Oper}
theorem RTI.nil(h:K L w):RTI P n ops [] K L w:=λ _ H=>⟨L,H,h⟩
theorem RTI.ev{o:Oper}{r:List Oper}{v:Value}(g:o.guard=none)(hd:bX n o.dst=true)(he:Ev P n L w o v)(h:RTI P n ops r K (putK o.dst v L) w)(d:gE o=true:=by rfl):RTI P n ops (o::r) K L w:=λ a H=>by
 unfold wpListIn;rw[Xp (by simp[Region.wanted,g])];refine om (.inl Y) d (next:=wpListIn Fence.wide 1 P ops.toArray (RQ n K) r) (λ _ _ h=>h) ?_;simp only[Oper.wp,he a H,Oper.upon];exact h _ (H.putK hd)
theorem RTI.yes{o:Oper}{r:List Oper}{j d:Nat}{b i:Bool}(q:o.guard=some (j,b))(hj:vS ops j=some d)(p:look L d=some (.bool i))(g:i=b)
  (h:RTI P n ops ({o with guard:=none}::r) K L w):RTI P n ops (o::r) K L w:=λ a k=>by
 subst g;have H:=h a k;unfold wpListIn at H⊢;have:Region.wanted o (yielded ops.toArray a.tmps)=true:=a3V
 have l:Region.wanted {o with guard:=none} (yielded ops.toArray a.tmps)=true:=a3y
 simp only[this,l,Z7]at H⊢;exact H
theorem RTI.no{o:Oper}{r:List Oper}{j d:Nat}{b g:Bool}(l:o.guard=some (j,b))(hj:vS ops j=some d)(k:look L d=some (.bool g))(H:g= !b)(hd:bX n o.dst=true)
  (h:RTI P n ops r K (putK o.dst undef L) w):RTI P n ops (o::r) K L w:=λ a i=>by
 have:Region.wanted o (yielded ops.toArray a.tmps)=false:=by
  simp only[Region.wanted,l,i.yielded hj k];subst H;cases b<;>simp
 unfold wpListIn;rw[this];exact⟨λ _ _=>trivial,h _ (i.putK hd)⟩
def RTI.yield{d:Option Nat}{t:Nat}{X:List Operand}{A:Array TypeId}{ty:TypeId}{pos:String}{af:Array Edge}{r:List Oper}{l:Nat}{vs:List Value}
  (hd:bX n d=true) (E:look L t=some (.func (.yield l) #[] #[])) (u:aM L (.tmp t)=some (.func (.yield l) #[] #[])) (j:pB L X=some vs)
  (h:YieldV P l vs w λ b W=>RTI P n ops r K (putK d (.bool b) L) W):RTI P n ops (⟨d,.call ⟨.value (.tmp t),X.toArray,A⟩,ty,pos,af,none⟩::r) K L w:=λ a g=>by
 obtain⟨k,T,assign,y,D,R⟩:=h;have he:=g.BZ j;have q:a.eval (.tmp t)= .func (.yield l) #[] #[]:=g.eval u;have p:X.toArray.map a.eval=vs.toArray:=a3b
 have H:(execOp a.eval ⟨d,.call ⟨.value (.tmp t),X.toArray,A⟩,ty,pos,af,none⟩).run P w= .ok (.round l k T assign y) w:=by
  have i:(#[]:Array Value)++vs.toArray=vs.toArray:=bw
  simp only[execOp,resolve,p,q,Deferred.ofValue,bind,Sem.bind,pure,invoke,i,Array.append_empty];simpa only[Sem.run]using D
 unfold wpListIn;rw[Xp a3y];refine⟨λ _ _=>trivial,?_⟩;rw[show Fence.wide.round=none from Y,Oper.semAt_none,H,Oper.uponIn_round];refine⟨λ h=>a2T,RoundIn.mono R ?_⟩;rintro e W ⟨b,rfl,o⟩;exact o _ (g.putK hd)
def CW.zq{id:Nat}{l:List Oper}{N R:aA->World->Prop}{X G:List (Nat×(aA->World->Prop))}(h:RTI P n l l N L w):CW P n (.region id l.toArray false) ⟨N,R,X,G⟩ L w:=λ a H=>
 wpIn_wide.1 (a07 (wpIn_region_lit (h a H)) (RQ.lift (Q:=⟨N,R,X,G⟩)))
end
def fg(l:Nat)(r:Loop):Chunk where
 foot:=[l]
 holds w:=w.heap[l]? =some (.loop r)
 stable w w' h hc:=by rw[h l bw];exact hc
def iy(b:Nat)(ds:Option (List Deferred)):Chunk where
 foot:=[b]
 holds w:=w.heap[b]? =some (.deferred ds)
 stable w w' h hc:=by rw[h b bw];exact hc
def tH{w:World}{b:Nat}{o:Obj}(o':Obj)(H:w.heap[b]? =some o):Chg [b] w (w.putObj b o'):=mP o' H
def Sat.sQ{w0 w:World}{cs:List Chunk}(h:Sat w0 cs w)(i:Nat){l:Nat}{r:Loop}(R:Loop)(H:cs[i]? =some (fg l r)):Sat w0 (cs.set i (fg l R)) (w.putObj l (.loop R)):=
 h.set i H (tH _ (h.get H)) (World.putObj_heap_same (Z5.1 (h.get H)).1) (λ _ k=>.inl k)
def Sat.MB{w0 w:World}{cs:List Chunk}(h:Sat w0 cs w)(i:Nat){b:Nat}{ds:Option (List Deferred)}(d:Option (List Deferred))(H:cs[i]? =some (iy b ds)):Sat w0 (cs.set i (iy b d)) (w.putObj b (.deferred d)):=
 h.set i H (tH _ (h.get H)) (World.putObj_heap_same (Z5.1 (h.get H)).1) (λ _ k=>.inl k)
def Jj{α:Type}(P:Program)(o:FuncId)(j:List Value)(enc:α->List Value)(us:List α)(own:List Chunk)(w0:World):Prop:=
 ∀ (G:Type) (l:Nat) (C X:List α->G->List Chunk) (D:List Chunk) (w:World) (k:G),Sat w0 (own++(C [] k++D)) w->
  (∀ d u r w2 E g,us=d++u::r->Sat w0 (C d g++E) w2->
   YieldV P l (enc u) w2 λ b w3=>(b=true/\∃ i,Sat w0 (C (d++[u]) i++E) w3)\/(b=false/\∃ i,Sat w0 (X (d++[u]) i++E) w3))->
  CallsV P o (.func (.yield l) #[] #[]::j) w λ _ W=>(∃ g,Sat w0 (own++(C us g++D)) W)\/∃ d u r g,us=d++u::r/\Sat w0 (own++(X (d++[u]) g++D)) W
def Sat.swap{w0 w:World}{A B D:List Chunk}(h:Sat w0 (A++(B++D)) w):Sat w0 (B++(A++D)) w:=
 h.perm (by rw[<-KW,<-KW];exact a1l D ZP)
theorem YieldV.mono{P:Program}{l:Nat}{args:List Value}{w:World}{Φ Ψ:Bool->World->Prop}(h:YieldV P l args w Φ)(k:∀ b W,Φ b W->Ψ b W):YieldV P l args w Ψ:=by
 obtain⟨d,t,assign,y,g,R⟩:=h;exact⟨d,t,assign,y,g,RoundIn.mono R λ e W ⟨b,he,H⟩=>⟨b,he,k b W H⟩⟩
def CT(P:Program)(n:Nat)(c:Code)(M:Exit->Act->World->Prop)(L:aA)(w:World):Prop:=∀ a,Fits n L a->c.wp P M a w
theorem CT.seq{P:Program}{n:Nat}{x y:Code}{M:Exit->Act->World->Prop}{L:aA}{w:World}(h:CW P n x ⟨λ L w=>CT P n y M L w,λ _ _=>False,[],[]⟩ L w):CT P n (.seq x y) M L w:=λ a i=>
 wp_seq (a0p (h a i) λ e A W q=>by
  cases e with
  |normal=>obtain⟨g,d,H⟩:=q;exact H A d
  |ret=>obtain⟨g,d,H⟩:=q;exact H.elim
  |exit id=>obtain⟨g,d,H⟩:=q;exact(H:False).elim
  |goto l=>obtain⟨g,d,H⟩:=q;exact(H:False).elim
  |panic c=>exact(q:False).elim
  |outgrown=>exact(q:False).elim)
def CB(P:Program)(n:Nat)(x y:Code)(M:Exit->Act->World->Prop)(L:aA)(w:World):Prop:=∀ a,Fits n L a->x.wp P (Exit.then (y.wp P M) M) a w
def CT.PU{P:Program}{n:Nat}{x y z:Code}{M:Exit->Act->World->Prop}{L:aA}{w:World}(h:CW P n x ⟨λ L w=>CB P n y z M L w,λ _ _=>False,[],[]⟩ L w):CT P n (.seq (.seq x y) z) M L w:=λ a i=>
 wp_seq (wp_seq (a0p (h a i) λ e A W q=>by
  cases e with
  |normal=>obtain⟨g,d,H⟩:=q;exact H A d
  |ret=>obtain⟨g,d,H⟩:=q;exact H.elim
  |exit id=>obtain⟨g,d,H⟩:=q;exact(H:False).elim
  |goto l=>obtain⟨g,d,H⟩:=q;exact(H:False).elim
  |panic c=>exact(q:False).elim
  |outgrown=>exact(q:False).elim))
def tI(P:Program)(n:Nat)(fn:Func)(Φ:Value->World->Prop):Exit->Act->World->Prop:=bodyPostM Fence.wide 1 P fn (Wx Φ)
def iz{P:Program}{f:FuncId}{fn:Func}{c:Code}{args:List Value}{w:World}{Φ:Value->World->Prop}(i:P.funcs[f]? =some fn)(g:fn.body=some c)(j:Nat.ble (I args) fn.ntmps=true)
  (h:CT P fn.ntmps c (tI P fn.ntmps fn Φ) (initK args 0) w):CallsV P f args w Φ:=by
 refine(a2j (n:=1)).1 (callsIn_of_wp_marks i g trivial (wpIn_wide.2 (h _ ⟨?_,?_,Y⟩)))
 ·have:=XW j;simp;omega
 ·intro t v k;obtain⟨_,H⟩:=oq args 0 t v k;simp only[a0j]at H;rw[a1s];have d:t<I args:=by
   rcases XI t (I args) with h|h
   ·exact h
   ·simp[XQ h]at H
  simp[d]at H⊢;exact H
def tJ{P:Program}{n:Nat}{fn:Func}{Φ:Value->World->Prop}{D:Nat}{a:Act}{L:aA}{w:World}(d:Fits n L {a with defers:=[]})(hd:a.defers=[{target:=.collected D,args:= #[]}])
  (H:w.heap[D]? =some (.deferred (some []))) (p:aE P n fn Φ L (w.putObj D (.deferred none))):tI P n fn Φ .ret a w:=by
 obtain⟨v,g,i⟩:=p _ d;show LeavesInM Fence.wide 1 P fn a.tmps (Wx Φ) a.defers .returning w;rw[hd];refine⟨bw,.inl ⟨_,_,Y,run_takeDeferred H,?_⟩⟩;exact⟨v,g,v,Y,i⟩
def pq{α G:Type}{P:Program}{n:Nat}{fn:Func}{Φ:Value->World->Prop}{c3 t p c1:Nat}{assign body:Code}{l:List Oper}{gf:FuncId}{cap:Array Value}{w0 w:World}{L:aA}
  {enc:α->Value} {us:List α} {own cs:List Chunk} (N UX:List α->G->List Chunk) (K3:α->Nat->aA) (UA:List α->G->α->Nat->List Chunk) (g0:G)
  (ht:look L t=some (.func (.func gf) #[] cap)) (hp:Nat.ble (p+1) n=true) (hf:Enters P gf) (h0:Sat w0 (N [] g0++(own++cs)) w)
  (hit:Jj P gf cap.toList (λ u=>[enc u]) us own w0)
  (b4:∀ lp i u R w2 ds g,us=i++u::R->Sat w0 (N i g++ds) w2->CWR lp P n assign ⟨λ L3 w3=>∃ b,Weak (K3 u b) L3/\Sat w0 (UA i g u b++ds) w3,λ _ _=>False,[],[]⟩ ((p,enc u)::L) w2)
  (a2:∀ lp i u R b w2 ds g,us=i++u::R->Sat w0 (UA i g u b++ds) w2->CWR lp P n body ⟨λ _ w3=>∃ g',Sat w0 (N (i++[u]) g'++ds) w3,λ _ w3=>∃ g',Sat w0 (UX (i++[u]) g'++ds) w3,[],[]⟩ (K3 u b) w2)
  (a4:∀ D w2 g,Sat w0 (N us g++((own++cs)++[iy D (some [])])) w2->RT P n l l (λ L' w'=>∃ E,Sat w0 (E++[iy D (some [])]) w'/\∀ c2,Sat w0 (E++[iy D none]) c2->aE P n fn Φ L' c2) L w2)
  (b2:∀ i u R D w2 g,us=i++u::R->Sat w0 (UX (i++[u]) g++((own++cs)++[iy D none])) w2->aE P n fn Φ L w2):
  CB P n (.block c3 (.rangeFunc (.tmp t) #[p] assign body)) (.seq (.region c1 l.toArray false) .ret) (tI P n fn Φ) L w:=by
 intro a ha;have b5:a.defers=[]:=ha.defers;have a6:∀ (D:Nat) (a':Act),a'={a with defers:=[{target:=.collected D,args:= #[]}]++a.defers}->Mk [{target:=.collected D,args:= #[]}] a a':=λ D a' e=>by
  subst e;exact⟨Y,by simp[b5]⟩
 have b6:∀ (D:Nat) (w4:World) g,Sat w0 (N us g++((own++cs)++[iy D (some [])])) w4->
   (Code.seq (.region c1 l.toArray false) .ret).wp P (tI P n fn Φ) {a with defers:=[{target:=.collected D,args:= #[]}]++a.defers} w4:=λ D w4 g k=>by
  refine wp_seq (wp_region_list<|have hw:=a4 D w4 g k a ha;qI (D:=[{target:=.collected D,args:= #[]}]) ?_ _ a _ _ (a6 D _ Y) (by simpa using hw));rintro e b0 b w5 hb W;cases e with
  |normal=>
   obtain⟨L',a0,E,b7,b1⟩:=W;refine wp_ret ?_;have T:w5.heap[D]? =some (.deferred (some [])):=(b7.holds (iy D (some [])) bw).1;have c4:(E++[iy D (some [])])[I E]? =some (iy D (some [])):=bw
   have y:=b7.MB (I E) none c4;rw[Y2 _ _ (KM _),Y4]at y;refine tJ (D:=D) (L:=L') ⟨by rw[hb.1];exact a0.size,λ t v hv=>by show b.tmps[t]? =_;rw[hb.1];exact a0.slot t v hv,Y⟩ (by rw[hb.2,a0.defers];rfl) T (b1 _ y)
  |_=>exact(W:False).elim
 have X:∀ (D:Nat) (w4:World) i u R g,us=i++u::R->Sat w0 (UX (i++[u]) g++((own++cs)++[iy D (some [])])) w4->
   tI P n fn Φ .ret {a with defers:=[{target:=.collected D,args:= #[]}]++a.defers} w4:=λ D w4 i u R g hu k=>by
  have T:w4.heap[D]? =some (.deferred (some [])):=(k.holds (iy D (some [])) bw).1;have q:Sat w0 ((UX (i++[u]) g++(own++cs))++[iy D (some [])]) w4:=by rw[KW];exact k
  have y:=q.MB (b:=D) (ds:=some []) (I (UX (i++[u]) g++(own++cs))) none bw;rw[Y2 _ _ (KM _),Y4,KW]at y;exact tJ (D:=D) (L:=L) ⟨ha.size,ha.slot,Y⟩ (by rw[b5];rfl) T (b2 i u R D _ g hu y)
 refine(wp_block (wpIn_wide (n:=1)|>.1 (wpIn_rangeFunc ?_)));intro f0 _;obtain⟨rec,H⟩:∃ rec:LoopState->Option Code->Loop,rec=λ st pe=>{state:=st,pending:=pe,fn:=f0,tmps:=a.tmps,params:= #[p],assign,body,defers:=w.heap.size}:=⟨_,Y⟩;have c8:Sat w0 ((N [] g0++(own++cs))++[iy w.heap.size (some [])]) (w.alloc (.deferred (some []))):=h0.add (.alloc _ _) (Zu w _) (by simp[iy]);have b3:Sat w0 (((N [] g0++(own++cs))++[iy w.heap.size (some [])])++[fg (w.heap.size+1) (rec .ready none)]) ((w.alloc (.deferred (some []))).alloc (.loop (rec .ready none))):=by
  have:=c8.add (c:=fg (w.heap.size+1) (rec .ready none)) (.alloc (w.alloc (.deferred (some []))) (.loop (rec .ready none))) (by have:=Zu (w.alloc (.deferred (some []))) (.loop (rec .ready none));rwa[World.size_alloc]at this) (by simp[fg]);exact this
 obtain⟨W2,hW⟩:∃ W2,(w.alloc (.deferred (some []))).alloc (.loop (rec .ready none))=W2:=⟨_,Y⟩;rw[hW]at b3;have a9:Sat w0 (own++((N [] g0++[fg (w.heap.size+1) (rec .ready none)])++(cs++[iy w.heap.size (some [])]))) W2:=by
  refine Sat.swap (b3.perm ?_);rw[KW,KW,KW,KW];refine Zb _ ?_;rw[<-KW,<-KW,<-KW,KW own];exact ZP
 refine⟨w.heap.size+1,[{target:=.collected w.heap.size,args:= #[]}],W2,{target:=.fn (.func gf) cap,args:= #[.func (.yield (w.heap.size+1)) #[] #[]]},W2,gf,
  #[.func (.yield (w.heap.size+1)) #[] #[]]++cap,W2,?_,?_,?_,?_,λ _=>KM _,?_⟩
 ·rw[<-hW,H];exact run_enterLoop_outer _ _ _ _ _
 ·have hg:a.eval (.tmp t)= .func (.func gf) #[] cap:=ha.eval (show aM L (.tmp t)=_ from ht);simp only[resolve,hg];simp[go_sem]
 ·intro f' _;trivial
 ·simp[invoke,go_sem];exact hf _ _
 ·have hI:=hit G (w.heap.size+1) (λ i g=>N i g++[fg (w.heap.size+1) (rec .ready none)])
   (λ i g=>UX i g++[fg (w.heap.size+1) (rec .done (some .ret))]) (cs++[iy w.heap.size (some [])]) W2 g0 a9 ?_
  ·have Q:Calls P gf (.func (.yield (w.heap.size+1)) #[] #[]::cap.toList).toArray W2 _:=hI;have a1:(.func (.yield (w.heap.size+1)) #[] #[]::cap.toList).toArray= #[.func (.yield (w.heap.size+1)) #[] #[]]++cap:=bw
   rw[a1]at Q;refine a2j.2 (YS Q ?_);rintro e w3 ⟨v,rfl,j⟩;rcases j with⟨g,j⟩|⟨i,u,R,g,hu,j⟩
   ·replace j:=j.swap
    rw[<-KW own]at j;have hm:fg (w.heap.size+1) (rec .ready none)∈(N us g++[fg (w.heap.size+1) (rec .ready none)])++((own++cs)++[iy w.heap.size (some [])]):=bw
    have hl:=(j.holds _ hm).1;refine⟨none,w3.putObj (w.heap.size+1) (.loop {rec .ready none with state:=.exhausted}),?_,?_⟩
    ·have:=run_endLoop (P:=P) hl a3f;have hp:(rec .ready none).pending=none:=a3Q
     exact this.trans (by subst H;rfl)
    ·refine b6 w.heap.size _ g ?_;have k:=j.sQ (l:=w.heap.size+1) (r:=rec .ready none) (I (N us g)) {rec .ready none with state:=.exhausted} bw;rw[KW,Y2 _ _ (KM _),Y4]at k;exact k.sub (List.Sublist.append (a2d _) (a1k _ _))
   ·replace j:=j.swap
    rw[<-KW own]at j;have hm:fg (w.heap.size+1) (rec .done (some .ret))∈(UX (i++[u]) g++[fg (w.heap.size+1) (rec .done (some .ret))])++((own++cs)++[iy w.heap.size (some [])]):=bw
    have hl:=(j.holds _ hm).1;refine⟨some .ret,w3.putObj (w.heap.size+1) (.loop {rec .done (some .ret)with state:=.exhausted}),?_,?_⟩
    ·have:=run_endLoop (P:=P) hl a3f;have hp:(rec .done (some .ret)).pending=some .ret:=a3Q
     exact this.trans (by subst H;rfl)
    ·refine wpIn_ret<|X w.heap.size _ i u R g hu ?_;have k:=j.sQ (l:=w.heap.size+1) (r:=rec .done (some .ret)) (I (UX (i++[u]) g)) {rec .done (some .ret)with state:=.exhausted} bw;rw[KW,Y2 _ _ (KM _),Y4]at k;exact k.sub (List.Sublist.append (a2d _) (a1k _ _))
  ·intro i u R w2 es g hu c0;have hm:fg (w.heap.size+1) (rec .ready none)∈(N i g++[fg (w.heap.size+1) (rec .ready none)])++es:=bw
   have hl:=(c0.holds _ hm).1;have hy:=run_yield (P:=P) (args:= #[enc u]) hl (by rw[H];rfl);rw[H]at hy;refine⟨f0,_,assign,body,hy,roundIn_of_wpIn trivial ?_⟩;have c5:Fits n ((p,enc u)::L) {tmps:=(#[p].zip #[enc u]).foldl (λ t (p,v)=>t.setIfInBounds p v) a.tmps,defers:=[]}:=by
    have:=ha.put (d:=p) (v:=enc u) (XW hp);exact⟨by simpa[Act.put]using this.size,λ t v hv=>by have:=this.slot t v hv;simpa[Act.put]using this,Y⟩
   refine a07 (b4 (w.heap.size+1) i u R w2 ([fg (w.heap.size+1) (rec .ready none)]++es) g hu (by rw[<-KW];exact c0) _ c5) ?_;rintro e a3 w3 W;cases e with
   |normal=>
    obtain⟨L3,c7,b,c6,j⟩:=W;have e1:fg (w.heap.size+1) (rec .ready none)∈UA i g u b++([fg (w.heap.size+1) (rec .ready none)]++es):=bw
    have c9:=(j.holds _ e1).1;have k:=j.sQ (l:=w.heap.size+1) (r:=rec .ready none) (I (UA i g u b)) {rec .ready none with state:=.busy} bw;rw[Y2 _ _ (KM _),Y4]at k;refine⟨_,run_beginRound c9 a3Q,?_⟩;refine a07 (a2 (w.heap.size+1) i u R b _ ([fg (w.heap.size+1) {rec .ready none with state:=.busy}]++es) g hu k a3 (c7.weaken c6)) ?_;rintro e2 a5 w5 K;have fin:∀ (o:Option Code) (Y:List Chunk),Sat w0 (Y++([fg (w.heap.size+1) {rec .ready none with state:=.busy}]++es)) w5->
      ∃ w6,(Instr.endRound (w.heap.size+1) o).run P w5= .ok (.bool o.isNone) w6/\Sat w0 ((Y++[fg (w.heap.size+1) (rec (if o.isNone then .ready else .done) o)])++es) w6:=λ o Y hY=>by
     have e0:=(hY.holds (fg (w.heap.size+1) {rec .ready none with state:=.busy}) bw).1;have A:=hY.sQ (l:=w.heap.size+1) (r:={rec .ready none with state:=.busy}) (I Y) {({rec .ready none with state:=.busy}:Loop)with state:=if o.isNone then .ready else .done,pending:=o} bw;rw[Y2 _ _ (KM _),Y4]at A;refine⟨_,run_endRound (P:=P) o e0,?_⟩;rw[KW];rw[H]at A⊢;exact A
    cases e2 with
    |normal=>
     obtain⟨L5,_,g5,q⟩:=K;obtain⟨w6,h6,A⟩:=fin none _ q;exact⟨_,w6,h6,true,Y,.inl ⟨Y,g5,A⟩⟩
    |ret=>
     obtain⟨L5,_,g5,q⟩:=K;obtain⟨w6,h6,A⟩:=fin (some .ret) _ q;exact⟨_,w6,h6,false,Y,.inr ⟨Y,g5,A⟩⟩
    |exit id=>obtain⟨L5,_,q⟩:=K;exact(q:False).elim
    |goto t=>obtain⟨L5,_,q⟩:=K;exact(q:False).elim
    |panic c=>exact(K:False).elim
    |outgrown=>exact(K:False).elim
   |ret=>obtain⟨L3,_,h⟩:=W;exact h.elim
   |exit id=>obtain⟨L3,_,h⟩:=W;exact(h:False).elim
   |goto t=>obtain⟨L3,_,h⟩:=W;exact(h:False).elim
   |panic c=>exact(W:False).elim
   |outgrown=>exact(W:False).elim
def fC(p:Prop):Chunk:=⟨[],λ _=>p,λ _ _ _ h=>h⟩
def Sat.pure{w0 w:World}{cs:List Chunk}{p:Prop}(h:Sat w0 cs w)(i:p):Sat w0 (fC p::cs) w:=
 ⟨h.old,λ c H=>by
  rcases Xr.1 H with rfl|H
  ·exact⟨i,λ k g=>(by cases g)⟩
  ·exact h.holds c H,XY.2 ⟨λ d _ k g=>(by cases g),h.apart⟩⟩
def Sat.zl{w0 w:World}{cs:List Chunk}{p q:Prop}(h:Sat w0 (fC p::cs) w)(H:p->q):Sat w0 (fC q::cs) w:=
 (h.sub (a1k _ _)).pure (H (h.holds (fC p) (Yp ..)).1)
def Sat.lz{w0 w:World}{cs:List Chunk}{p:Prop}(h:Sat w0 (fC p::cs) w):p:=(h.holds (fC p) (Yp ..)).1
section
variable {P:Program} {n:Nat} {L:aA} {w:World} {d:Option Nat} {ty:TypeId} {pos:String} {af:Array Edge} {g:Option (Nat×Bool)}
def Ev.nw{x y:Operand}{f:FuncId}{v u:Value}(i:aM L x=some v)(j:aM L y=some u):Ev P n L w ⟨d,.makeFunc (.func f) #[] #[x,y],ty,pos,af,g⟩ (.func (.func f) #[] #[v,u]):=.of λ ρ H=>by
 simp[execOp,H i,H j,Instr.makeFunc,go_sem]
end
def gJ:Enc Un:=⟨3,λ u=>[.int .i32 (u.r:Int),.int .i64 (u.at_:Int),.int .i64 (u.size:Int)],λ _=>Y,λ x v h=>by
 simp only[Xr,Xq,XA]at h;rcases h with rfl|rfl|rfl<;>rfl⟩
def tK(s:ByteArray):I s.data.toList=s.size:=YL
def iX{s:ByteArray}{i:Nat}(h:i<s.size):cv s.data.toList i=⟨(dec (ww i s.data.toList)).1,i,i+(dec (ww i s.data.toList)).2-i⟩::cv s.data.toList (i+(dec (ww i s.data.toList)).2):=by
 rw[gn a4x,Yk]
def ee{s:ByteArray}{i:Nat}(h:i<s.size):i+(dec (ww i s.data.toList)).2<=s.size:=by
 have:=AK (s:=s.data.toList) (i:=i) a4x;rwa[tK]at this
def sA{s:ByteArray}{i:Nat}(h:s.size<=i):cv s.data.toList i=[]:=eB a4x
section
variable {P:Program} {n:Nat} {L:aA} {w:World} {d:Option Nat} {x y:Operand} {xt yt ty:TypeId} {g:Option (Nat×Bool)} {k:IntKind}
def Ev.W8{pos:String}{af:Array Edge}{a b:Nat}(o:aM L x=some (.int k (a:Int)))(p:aM L y=some (.int k (b:Int)))(l:k.signed=false)(q:0<b)(h:a<2^k.bits):Ev P n L w ⟨d,.binOp .quo xt x y yt,ty,pos,af,g⟩ (.int k ((a/b:Nat):Int)):=
 .bin o p (Yd ..) λ w=>by
  have H:(b:Int)≠0:=O
  have i:((a:Int).tdiv (b:Int))=((a/b:Nat):Int):=by rw[Int.tdiv_eq_ediv_of_nonneg O];simp
  have j:k.wrap ((a/b:Nat):Int)=((a/b:Nat):Int):=qK l (a04 (Yn a b) h);simp only[binOp,Op.intDiv,H,Yy,i,j,go_sem];simp[go_sem]
def Ev.dV{w0:World}{cs:List Chunk}{pos:String}{af:Array Edge}{T i b:Nat}{U:TypeId}{j:List Value}{m:Nat}(H:dF P T m=true)(N:aM L x=some (.pointer (some ⟨b,0,none⟩)))(E:Sat w0 cs w)(t:cs[i]? =some (ai b U j))(A:I j=m):
  Ev P n L w ⟨d,.load T x,ty,pos,af,g⟩ (.agg j.toArray):=.of λ ρ Q=>by
 subst A;have y:=Ze (P:=P) w ⟨b,0,none⟩ j (λ q u K=>by rw[Yg,XU];exact E.cell t K);have o:(isAgg T).run P w= .ok true w:=by
  unfold dF at H;cases l:P.underlying T with
  |none=>simp[l]at H
  |some D=>cases D<;>simp[l]at H<;>simp[isAgg,Xy l,go_sem]
 have r:(sizeOf T).run P w= .ok (I j) w:=by
  unfold dF at H;cases k:P.info? T with
  |none=>simp[k]at H
  |some R=>simp[k]at H;simp[sizeOf,typeInfo,k,H.2,go_sem]
 have p:(Instr.loadAt T (ρ x)).run P w= .ok (.agg j.toArray) w:=by
  simp only[Instr.loadAt,loadVar,Q N,Instr.sureAddr,XC,XG,Xw,o,r,y,Z7]
 simp only[execOp,XC,p,Xw,XG]
end
section
variable {α:Type} {E:Enc α} {P:Program} {n:Nat} {L:aA} {w w0:World} {cs:List Chunk} {K:Value->World->Prop} {d:Option Nat} {ty:TypeId} {pos:String} {af:Array Edge} {g:Option (Nat×Bool)}
def Jk{l:List α}{j off:Nat}{a A:α}{u:Value}(H:l[j]? =some a)(he:E.enc A=(E.enc a).set off u)(o:off<E.s):(E.all l).set (j*E.s+off) u=E.all (l.set j A):=by
 have d:j<I l:=(KC.1 H).1;have g:l=J j l++a::ww (j+1) l:=by
  have:=(KC.1 H).2
  conv=>lhs;rw[<-XV j l,Yl d,this]
 have i:l.set j A=J j l++A::ww (j+1) l:=by
  rw[YO];simp[d]
 have k:I (E.all (J j l))=j*E.s:=by rw[E.all_length];simp;rw[Y5 O]
 rw[i,E.all_append,E.all_cons,he]
 conv=>lhs;rw[g,E.all_append,E.all_cons]
 rw[Y2 _ _ O,k,Yk,a0i _ _ (by rw[E.len];exact o)]
def OpE.jF{x y:Operand}{T e j off:Nat}{v u:Value}{l:List α}{a:α}(i:Nat)(A:α)(p:(P.info? T).map (·.size)=some 1)(Q:Sat w0 cs w)(q:cs[i]? =some (cL v e E l))(R:aM L x=some (bY v (j*E.s+off)))
  (X:aM L y=some u) (h1:u.oneCell'=true) (k:l[j]? =some a) (he:E.enc A=(E.enc a).set off u) (N:off<E.s) (D:∀ W,Sat w0 (cs.set i (cL v e E (l.set j A))) W->Chg (ck v) w W->K undef W):OpE P n L w ⟨d,.store T x y,ty,pos,af,g⟩ K:=by
 have r:j<I l:=(KC.1 k).1;have t:j*E.s+off<I (E.all l):=by
  rw[E.all_length];have:(j+1)*E.s<=I l*E.s:=YH _ r;rw[Yc,Z0]at this;omega
 refine OpE.FG p Q q R X h1 (py t) λ W H o=>D W ?_ o;rw[Jk k he N]at H;unfold cL;rw[Xt];exact H
end
structure RU where
 r:Nat
 at_:Nat
 size:Nat
 ok:Bool
def lA:Enc RU:=⟨4,λ u=>[.int .i32 (u.r:Int),.int .i64 (u.at_:Int),.int .i64 (u.size:Int),.bool u.ok],λ _=>Y,λ x v h=>by
 simp only[Xr,Xq,XA]at h;rcases h with rfl|rfl|rfl|rfl<;>rfl⟩
def mQ(u:Un):RU:=⟨u.r,u.at_,u.size,false⟩
def vP(u:Un):RU:=⟨u.r,u.at_,u.size,u.ok⟩
def eo{α:Type}{l:List α}{k:Nat}{x:α}(h:l[k]? =some x):ww k l=x::ww (k+1) l:=by
 obtain⟨H,rfl⟩:=KC.1 h;exact Yl H
def Jl{α:Type}{p:α->Bool}{l:List α}{k:Nat}{x:α}(h:(J k l).all p=true)(d:l[k]? =some x)(H:p x=true):(J (k+1) l).all p=true:=by
 rw[ZD,d,List.all_append,h];simp[H]
def ym(s:ByteArray)(u:Un):List UInt8:=J u.size (ww u.at_ s.data.toList)
def tL(s:ByteArray)(a b:Nat):(s.extract a b).data.toList=J (b-a) (ww a s.data.toList):=by
 have:(s.extract a b).data=s.data.extract a b:=bw
 rw[this,a1v]
def GZ(s:ByteArray)(u:Un):(s.extract u.at_ (u.at_+u.size)).data.toList=ym s u:=by
 rw[tL,Yk];rfl
def UH(s:ByteArray)(us:List Un):ByteArray:=⟨(us.reverse.flatMap (ym s)).toArray⟩
def Jm(s:ByteArray):UH s (dh s.data.toList)=yr s:=by
 apply k7;show(dh s.data.toList).reverse.flatMap (ym s)=AI s.data.toList;unfold AI;rw[<-AL,<-map_reverse,a2w];rfl
def bL(s:ByteArray):List Nat:=s.data.toList.map λ b=>b.toNat
def aB(s:ByteArray):I (bL s)=s.size:=by unfold bL;rw[Xu,tK]
def mR(s:ByteArray):∀ x∈bL s,x<256:=λ x H=>by
 obtain⟨b,_,rfl⟩:=Y7.1 H;exact b.toNat_lt
def lU{P:Program}{tx:TypeId}{w:World}(k:P.underlying tx=some .string)(s:ByteArray):Src P 1 tx (.string s) (I (bL s)) ((a7 .u8).all (bL s)) w:=by
 have h:=Src.ofString w k s;have e:(a7 .u8).all (bL s)=byteCells s:=by
  unfold bL byteCells;generalize s.data.toList=l;induction l with
  |nil=>rfl
  |cons b l i=>rw[XZ,XZ,Enc.all_cons,i];rfl
 rw[e,aB];exact h
def rE(l:List UInt8):strOf (l.map λ b=>b.toNat)=⟨l.toArray⟩:=by
 apply k7;simp[strOf,ZT,ZV]
def CY(s:ByteArray)(us:List Un):List Nat:=us.reverse.flatMap λ u=>bL (s.extract u.at_ (u.at_+u.size))
def Jn(s:ByteArray)(us:List Un):strOf (CY s us)=UH s us:=by
 have:CY s us=(us.reverse.flatMap (ym s)).map λ b=>b.toNat:=by
  unfold CY;rw[map_flatMap];congr 1;funext u;rw[bL,GZ]
 rw[this,rE];rfl
def H0(s:ByteArray)(us:List Un)(u:Un):CY s (u::us)=CY s us++bL (s.extract u.at_ (u.at_+u.size)):=by
 simp[CY]
def yn{us:List Un}{k:Nat}{u:Un}(H:us[k]? =some u):((J k us).map vP++(ww k us).map mQ)[k]? =some (mQ u):=by
 have d:=(KC.1 H).1;rw[XP a4E,Xu,Xo,Y5 O,Y4,XF,YI,YP,H];rfl
def Eg{us:List Un}{k:Nat}{u:Un}(H:us[k]? =some u){b:Bool}(g:b=u.ok):
  ((J k us).map vP++(ww k us).map mQ).set k ⟨u.r,u.at_,u.size,b⟩=(J (k+1) us).map vP++(ww (k+1) us).map mQ:=by
 obtain⟨i,he⟩:=KC.1 H;subst g;have E:J (k+1) us=J k us++[u]:=by rw[ZD,H];rfl
 have d:ww k us=u::ww (k+1) us:=by rw[Yl i,he]
 rw[Y2 _ _ a4E,Xu,Xo,Y5 O,Y4,d,E];simp[vP]
def O3{u:Un}(h:(mQ u).r≠65533):true=u.ok:=by
 have H:u.r≠65533:=h;simp[Un.ok,H]
def O4{u:Un}(h:¬ (mQ u).r≠65533):decide ((mQ u).size=3)=u.ok:=by
 have H:u.r=65533:=Y3.1 h;show decide (u.size=3)=_;by_cases d:u.size=3<;>simp[Un.ok,H,d]
def Eh{l:List RU}{done:List Un}{r a:Nat}(H:l=done.map mQ++[⟨r,a,0,false⟩]):l[I l-1]? =some ⟨r,a,0,false⟩:=by
 rw[H];simp
def Jo{l:List RU}{done:List Un}{r a:Nat}(z:Nat)(H:l=done.map mQ++[⟨r,a,0,false⟩]):l.set (I l-1) ⟨r,a,z,false⟩=(done++[(⟨r,a,z⟩:Un)]).map mQ:=by
 rw[H,AT,Xu,KP,Yh,Y2 _ _ bw,Xu,Y4];simp[mQ]
def Jp{P:Program}{n:Nat}{L:aA}{w:World}{fn:Func}{Φ:Value->World->Prop}{t T b:Nat}{u:Value}(r:fn.results= #[.cell t T])(k:look L t=some (.pointer (some ⟨b,0,none⟩)))(d:cX P T=true)
  (j:w.cell? ⟨b,0,none⟩=some u) (h:Φ u w):aE P n fn Φ L w:=λ a i=>by
 have g:=i.slot t _ k;refine⟨_,?_,h⟩;have l:(loadVar T ⟨b,0,none⟩).run P w= .ok u w:=by
  unfold cX at d;cases H:P.underlying T with
  |none=>simp[H]at d
  |some D=>cases D<;>simp[H]at d<;>simp[loadVar,isAgg,Xy H,j,go_sem]
 simp[results,r,Ys,g,asAddr,l]
def Ev.Ue{P:Program}{n:Nat}{L:aA}{w:World}{d:Option Nat}{ty:TypeId}{pos:String}{af:Array Edge}{g:Option (Nat×Bool)}{x y:Operand}{t T:TypeId}{a b:ByteArray}
  (H:aM L x=some (.string a)) (i:aM L y=some (.string b)) (h:a.size+b.size<=9223372036854775807):Ev P n L w ⟨d,.binOp .add t x y T,ty,pos,af,g⟩ (.string (a++b)):=
 .bin H i a0M λ w=>by rw[binOp_string_add];exact run_string_add_sum w a b h
end Go.Kw
namespace Go.Kw
def wX(c:Nat):Bool:=decide (c=95\/(65<=c/\c<=90)\/(97<=c/\c<=122))
def HV(c:Nat):Bool:=decide (wX c=true\/(48<=c/\c<=57)\/c=45)
def UI{c:Nat}(h:wX c=true):HV c=true:=LW (.inl h)
def pw(s:List UInt8):Bool:=match s with
 |[]=>false
 |c::r=>wX c.toNat&&r.all λ c=>HV c.toNat
def bF(s:ByteArray):Bool:=decide (s.size<=32)&&pw s.data.toList
def tM{s:ByteArray}(h:32<s.size):bF s=false:=by
 unfold bF;rw[IN O];rfl
def wY{s:ByteArray}(h:s.size<1):bF s=false:=by
 have H:s.data.toList=[]:=XM (by show I s.data.toList=0;have:I s.data.toList=s.size:=rfl;omega);unfold bF;rw[H];simp[pw]
def rF{s:List UInt8}{c:UInt8}(h:s[0]? =some c)(H:wX c.toNat=false):pw s=false:=by
 cases s with
 |nil=>rfl
 |cons d r=>simp at h;subst h;simp[pw,H]
def wZ{s:List UInt8}{i:Nat}{c:UInt8}(h:s[i]? =some c)(H:HV c.toNat=false):pw s=false:=by
 cases s with
 |nil=>rfl
 |cons d r=>
  cases i with
  |zero=>
   simp at h;subst h;have:wX d.toNat=false:=a1a.2 λ g=>by rw[UI g]at H;cases H
   simp[pw,this]
  |succ i=>
   simp at h;have j:=Xs h;have:(r.all λ c=>HV c.toNat)=false:=a1a.2 λ g=>by rw[Y6.1 g c j]at H;cases H
   simp[pw,this]
def tN{s:List UInt8}{c:UInt8}(h:s[0]? =some c)(H:wX c.toNat=true)(l:∀ i,∀ d,s[i]? =some d->0<i->HV d.toNat=true):pw s=true:=by
 cases s with
 |nil=>cases h
 |cons d r=>
  simp at h;subst h;have:(r.all λ c=>HV c.toNat)=true:=Y6.2 λ x j=>by
   obtain⟨i,g⟩:=Y9 j;exact l (i+1) x a0N O
  simp[pw,H,this]
def cj:Enc (ByteArray×Bool):=⟨2,λ x=>[.string x.1,.bool x.2],λ _=>Y,λ x u h=>by simp at h;rcases h with rfl|rfl<;>rfl⟩
structure Pc where
 f:Int
 sv:SV
 ns:List ByteArray
def RD(l:List (ByteArray×Bool))(i:Nat):Prop:=∀ x,l[i]? =some x->bF x.1=true/\((J i l).any λ y=>decide (y.1=x.1))=false
def atsOk(l:List (ByteArray×Bool)):Prop:=(∀ i,RD l i)/\1<=I l/\I l<=8
def bs(l:List UInt8):ByteArray:=⟨l.toArray⟩
def nl(l:List UInt8):List UInt8:=l++[10]
section
variable {al:List (ByteArray×Bool)} {nx jr:Int} {pl:List Pc}
end
end Go.Kw
namespace Go.Kw
open Go.RowKit
def Jq{α:Type}(v:Value)(E:Enc α)(l:List α):Chunk where
 foot:=ck v
 holds w:=RdL w v E l
 stable w w' h hc:=by
  obtain⟨a,p,rfl,H,r⟩:=hc;refine⟨a,p,Y,H,λ j u d=>?_⟩;obtain⟨b,o,rfl,hw⟩:=r j u d;exact⟨b,o,Y,(World.cell?_of_block (w:=w) (a:=⟨b,o+j,none⟩) (h b (by simp[ck]))).trans hw⟩
def Sat.qw{α:Type}{w0 w:World}{cs:List Chunk}(h:Sat w0 cs w){v:Value}{E:Enc α}{l:List α}(i:Nat)(H:cs[i]? =some (Jq v E l)):RdL w v E l:=h.get H
section
variable {P:Program} {n:Nat} {L:aA} {w w0:World} {cs:List Chunk} {K:Value->World->Prop} {d:Option Nat} {ty:TypeId} {pos:String} {af:Array Edge} {g:Option (Nat×Bool)}
def OpE.iM{x:Operand}{s t e:TypeId}{u:ByteArray}{T:TypeDesc}(h1:P.underlying s=some T)(h2:P.underlying t=some (.slice e))(p:P.underlying e=some (.int .u8))(A:Sat w0 cs w)(D:aM L x=some (.string u))(R:u.size<=4611686018427387904)
  (i:∀ v W,Sat w0 (cs++[Jq v (a7 .u8) (bL u)]) W->K v W):OpE P n L w ⟨d,.convert s t x,ty,pos,af,g⟩ K:=by
 have q:=Lib.bytesWorld_below w e u;refine .val (v:=.slice (some ⟨w.heap.size,0,none⟩) u.size (grownCap w u.size 0 e)) (w':=Lib.bytesWorld w e u) (λ ρ N=>?_) (i (.slice (some ⟨w.heap.size,0,none⟩) u.size (grownCap w u.size 0 e)) _ (A.add (.qx q) ?_ ?_))
 ·simp only[execOp,N D,XC,Lib.run_convert_string_bytes w s t e u h1 h2 p,Xw,XG]
 ·show RdL _ _ _ _;refine⟨_,_,by rw[aB],by rw[aB];exact a2r ..,λ j v o=>⟨w.heap.size,0,Y,?_⟩⟩;have l:=(KC.1 o).1;rw[(a7 .u8).all_length,aB]at l;have H:j<u.size:=by have E:(a7 .u8).s=1:=rfl;rw[E,Yj]at l;exact l
  rw[XU,Lib.bytesWorld_cell w e u j H];have E:(a7 .u8).all (bL u)=u.data.toList.map λ b=>Value.int .u8 (b.toNat:Int):=by
   unfold bL;induction u.data.toList with
   |nil=>rfl
   |cons y r Q=>rw[XZ,Enc.all_cons,Q];rfl
  rw[E,XF]at o;rw[<-o];have:u.data.toList[j]? =some (u.data.toList.getD j 0):=by
   rw[KV,py (show j<I u.data.toList from H)];rfl
  rw[this];rfl
 ·intro k i;simp only[Jq,ck,XJ]at i;subst i;rw[Lib.bytesWorld_size];omega
def jX{α:Type}(E:Enc α)(m:Nat)(l:E.s=m)(a:α)(i:Nat)(p t:List Value)(r:List (Nat×Value))(o:I p=i*m)(w:m<=I t):
  Instr.fill (λ i=>some (i*m,m)) (p++t).toArray ((i,E.ag a)::r)=Instr.fill (λ i=>some (i*m,m)) ((p++E.enc a)++ww m t).toArray r:=by
 have H:I (E.enc a)=m:=by rw[E.len,l]
 have j:=tT (E.enc a) (i*m) p t o O;have d:(E.ag a).cells=(E.enc a).toArray:=rfl;rw[Instr.fill];simp only[d];rw[Xn (by simp[H];omega)];congr 1;rw[H]at j;rw[<-j,<-Array.foldl_toList];have q:(E.enc a).toArray.zipIdx.toList=(E.enc a).zipIdx:=bw
 rw[q];have:∀ (g:List Value) (k:Nat) (A:Array Value),(g.zipIdx k).foldl (λ(cs:Array Value) (x:Value×Nat)=>cs.setIfInBounds (i*m+x.2) x.1) A=(g.zipIdx (i*m+k)).foldl (λ(cs:Array Value) (x:Value×Nat)=>cs.setIfInBounds x.2 x.1) A:=by
  intro g;induction g with
  |nil=>intro k A;rfl
  |cons v g u=>intro k A;simp only[zipIdx_cons,Zg];rw[u (k+1)];rfl
 exact this (E.enc a) 0 _
def UJ{α:Type}(E:Enc α)(m:Nat)(H:E.s=m)(a b c:α)(d:Array Value):Instr.fill (λ i=>some (i*m,m)) ((Array.range (3*m)).map (d[· %d.size]!)) [(0,E.ag a),(1,E.ag b),(2,E.ag c)]=some (E.all [a,b,c]).toArray:=by
 have g:(Array.range (3*m)).map (d[· %d.size]!)=([]++(List.range (3*m)).map (d[· %d.size]!)).toArray:=by
  apply a18;simp
 have l:∀ x:α,I (E.enc x)=m:=λ x=>by rw[E.len,H]
 rw[g,jX E m H a 0 [] _ _ bw cf,jX E m H b 1 _ _ _ a3I cf,jX E m H c 2 _ _ _ (by simp[l];omega) cf,Instr.fill];have j:List.drop m (List.drop m (List.drop m ((List.range (3*m)).map (d[· %d.size]!))))=[]:=by
  apply Yo;simp;omega
 rw[j,Enc.all_cons,Enc.all_cons,Enc.all_one];simp
def OpE.VY{α:Type}{x y A:Operand}{t e b m:Nat}{z:Value}(E:Enc α)(a i c:α)(H:SlTy P t e E.s z b)(N:E.s=m)(hp:0<m)(hm:3*m<=16777216)(T:Sat w0 cs w)(X:aM L x=some (E.ag a))(hy:aM L y=some (E.ag i))(p:aM L A=some (E.ag c))
  (R:∀ u W,Sat w0 (cs++[cL u e E [a,i,c]]) W->Chg [] w W->K u W):OpE P n L w ⟨d,.buildSlice t 3 #[(0,x),(1,y),(2,A)],ty,pos,af,g⟩ K:=by
 subst N;have l:=UJ E E.s Y a i c;obtain⟨a0,r,i2,i3,i4⟩:=H.info;have hz:=H.zs;refine .val (λ ρ q=>?_) (R (.slice (some ⟨w.heap.size,0,none⟩) 3 3) (w.alloc (.cells (E.all [a,i,c]).toArray e)) ?_ (.alloc _ _))
 ·have j:(Instr.buildSlice t 3 #[(0,E.ag a),(1,E.ag i),(2,E.ag c)]).run P w= .ok (.slice (some ⟨w.heap.size,0,none⟩) 3 3) (w.alloc (.cells (E.all [a,i,c]).toArray e)):=by
   have Q:=l z.cells;have o:¬ 2^24<3*E.s:=O
   have D:¬ (3*E.s:Nat)=0:=O
   have k:¬ (E.s:Nat)=0:=O
   have r1:(zeroValue e).run P w= .ok z w:=by simp[zeroValue,typeInfo,r,i2,go_sem]
   have r2:(sizeOf e).run P w= .ok E.s w:=by simp[sizeOf,typeInfo,r,i3,go_sem]
   have r3:(newRow e (E.all [a,i,c]).toArray).run P w= .ok ⟨w.heap.size,0,none⟩ (w.alloc (.cells (E.all [a,i,c]).toArray e)):=a2N
   simp only[Instr.buildSlice,Xy H.und,r2,XC,Xw,a1x,o,D,k,Yy,r1,XG,Q,r3]
  simp only[execOp,Zk,XZ,Zy,q X,q hy,q p,XC,j,Xw,XG]
 ·have h:=T.vG e E.s 3 3 (E.all [a,i,c]) a0B (KM _) (by rw[E.all_length];rfl);unfold cL;rw[Xx a5c]at h;exact h
end
section
variable {P:Program} {n:Nat} {L:aA} {w w0:World} {d:Option Nat} {ty:TypeId} {pos:String} {af:Array Edge} {g:Option (Nat×Bool)}
end
section
variable {P:Program} {n:Nat} {L:aA} {w w0:World} {cs:List Chunk} {d:Option Nat} {ty:TypeId} {pos:String} {af:Array Edge} {g:Option (Nat×Bool)}
end
section
variable {w0 w:World} {cs:List Chunk} {e:Nat}
end
end Go.Kw
namespace Go.Kw
def fK(d:List Nat)(Q:World->Prop):Chunk where
 foot:=d
 holds w:=∀ W,(∀ k∈d,W.heap[k]? =w.heap[k]?)->Q W
 stable w W h hc:=λ g i=>hc g λ k H=>(i k H).trans (h k H)
theorem Sat.bE{w0 w:World}{cs:List Chunk}(h:Sat w0 cs w)(i:Nat){d:List Nat}{Q:World->Prop}(H:cs[i]? =some (fK d Q)):Q w:=h.get H w λ _ _=>Y
def Hs(cs:List Chunk)(w:World):Prop:=∀ c∈cs,c.holds w
theorem Hs.get{cs:List Chunk}{w:World}(h:Hs cs w){i:Nat}{c:Chunk}(H:cs[i]? =some c):c.holds w:=h c (Xs H)
theorem Hs.bE{w:World}{cs:List Chunk}(h:Hs cs w)(i:Nat){d:List Nat}{Q:World->Prop}(H:cs[i]? =some (fK d Q)):Q w:=h.get H w λ _ _=>Y
theorem Hs.aj{α:Type}{w:World}{cs:List Chunk}(h:Hs cs w){e:Nat}{v:Value}{E:Enc α}{l:List α}(i:Nat)(H:cs[i]? =some (cL v e E l)):RdL w v E l:=Rd.ry (h.get H)
theorem Hs.bt{α:Type}{w:World}{cs:List Chunk}(h:Hs cs w){e:Nat}{E:Enc α}{ps:List (SV×List α)}(i:Nat)(H:cs[i]? =some (aZ e E ps)):∀ p∈ps,RdL w p.1.val E p.2:=λ p d=>
 Rd.ry ((h.get H).1 (cL p.1.val e E p.2) (Ye d))
def Sat.VT{w0 w:World}{A B:List Chunk}{Q:World->Prop}(h:Sat w0 (A++B) w)(q:∀ W,Hs A W->Q W):∃ g,Sat w0 (fK g Q::B) w:=by
 refine⟨A.flatMap (·.foot),h.old,λ c H=>?_,?_⟩
 ·rcases Xr.1 H with rfl|H
  ·refine⟨λ W i=>q W λ c H=>c.stable w W (λ k j=>i k (Z4.2 ⟨c,H,j⟩)) (h.holds c (YM _ H)).1,λ k i=>?_⟩;obtain⟨c,H,j⟩:=Z4.1 i;exact(h.holds c (YM _ H)).2 k j
  ·exact h.holds c (Yb _ H)
 ·obtain⟨_,l,o⟩:=YU.1 h.apart;refine XY.2 ⟨λ d hd k i=>?_,l⟩;obtain⟨c,H,j⟩:=Z4.1 i;exact o c H d hd k j
def Sat.rW{w0 w:World}{cs:List Chunk}{Q:World->Prop}(n:Nat)(h:Sat w0 cs w)(q:∀ W,Hs (J n cs) W->Q W):∃ d,Sat w0 (fK d Q::ww n cs) w:=
 Sat.VT (A:=J n cs) (B:=ww n cs) (by rw[XV];exact h) q
def Ev.VW{P:Program}{n:Nat}{L:aA}{w:World}{d:Option Nat}{ty:TypeId}{pos:String}{af:Array Edge}{g:Option (Nat×Bool)}{x:Operand}{T:TypeId}{f off c m:Nat}{v:Value}(l:kT P T f off=true)(H:aM L x=some (bY v c))(h:Wd v m)(q:0<m):
  Ev P n L w ⟨d,.fieldAddr T x f,ty,pos,af,g⟩ (bY v (c+off)):=by
 obtain⟨a,p,rfl,k⟩:=h;obtain⟨i,o,rfl⟩:=k q;have E:bY (.slice (some ⟨i,o,none⟩) m p) c= .pointer (some ⟨i,o+c,none⟩):=by simp only[bY,Yg]
 have j:bY (.slice (some ⟨i,o,none⟩) m p) (c+off)= .pointer (some ⟨i,o+c+off,none⟩):=by simp only[bY,Yg,YG]
 rw[j];rw[E]at H;exact Ev.fieldAddr l H Y
def Sat.qv{w0 w:World}{cs:List Chunk}{Q:World->Prop}(h:Sat w0 cs w)(q:∀ W,Q W):Sat w0 (fK [] Q::cs) w:=by
 refine⟨h.old,λ c H=>?_,XY.2 ⟨(λ d _ k g=>by cases g),h.apart⟩⟩;rcases Xr.1 H with rfl|H
 ·exact⟨λ W _=>q W,(λ k g=>by cases g)⟩
 ·exact h.holds c H
def Sat.PW{w0 w:World}{A B cs L:List Chunk}(h:Sat w0 ((A++cs)++B) w)(p:tW (A++B)=some L):Sat w0 (L++cs) w:=by rw[iZ _ _ p];exact h.sR
def Sat.Q2{w0 w:World}{A cs L:List Chunk}{i:Nat}{c:Chunk}(h:Sat w0 ((A++cs).set i c) w)(H:Nat.blt i (I A)=true)(p:tW (A.set i c)=some L):Sat w0 (L++cs) w:=by
 rw[iZ _ _ p];rw[a0i _ _ (by simpa[a05]using H)]at h;exact h
def Ar:List Chunk->Nat->Option Chunk
 |c::_,0=>some c
 |_::cs,k+1=>Ar cs k
 |[],_=>none
def CZ:List Nat->List Chunk->Option (List Chunk)
 |[],_=>some []
 |i::is,A=>match Ar A i with
  |some c=>match CZ is A with
   |some l=>some (c::l)
   |none=>none
  |none=>none
def px:∀ (A:List Chunk) (i:Nat) (c:Chunk),Ar A i=some c->A.getD i sB=c
 |_::_,0,c,h=>by simp only[Ar,YB]at h;simpa using h
 |_::cs,k+1,c,h=>by have:=px cs k c h;simpa using this
 |[],_,c,h=>by simp[Ar]at h
def Ei:∀ (d:List Nat) (A L:List Chunk),CZ d A=some L->L=d.map (λ i=>A.getD i sB)
 |[],_,L,h=>by simp only[CZ,YB]at h;exact h.symm
 |i::d,A,L,h=>by
  simp only[CZ]at h;split at h
  ·rename_i c hc
   split at h
   ·rename_i l hl
    cases h;rw[XZ,<-Ei d A l hl,px A i c hc]
   ·cases h
  ·cases h
theorem Sat.ordN{w0 w:World}{A cs L:List Chunk}(i:List Nat)(p:i.isPerm (List.range (I i))=true)(h:Sat w0 (A++cs) w)(l:I A=I i)(q:CZ i A=some L):Sat w0 (L++cs) w:=by
 rw[Ei _ _ _ q];exact Sat.order i p h l
def Sat.WO{w0 w:World}{A cs L M:List Chunk}(k:Nat)(h:Sat w0 (A++cs) w)(h1:tW (J k A)=some L)(h2:tW (ww k A)=some M):Sat w0 (L++(M++cs)) w:=by
 rw[iZ _ _ h1,iZ _ _ h2];exact h.cut k
theorem Sat.gZ{w0 w:World}{A cs L:List Chunk}(h:Sat w0 (A++cs) w)(i:List Nat)(p:fj i 0 A=some L):Sat w0 (L++cs) w:=h.sub ((mT _ _ _ _ p).append (a2d cs))
def Sat.fu{w0 w:World}{A cs T D:List Chunk}{Q:World->Prop}(n:Nat)(h:Sat w0 (A++cs) w)(h1:tW (J n A)=some T)(h2:tW (ww n A)=some D)(q:∀ W,Hs T W->Q W):∃ d,Sat w0 ((fK d Q::D)++cs) w:=
 Sat.VT (A:=T) (B:=D++cs) (by rw[iZ _ _ h1,iZ _ _ h2];exact h.cut n) q
def Sat.gA{w0 w:World}{A cs:List Chunk}{Q:World->Prop}(h:Sat w0 (A++cs) w)(q:∀ W,Q W):Sat w0 ((fK [] Q::A)++cs) w:=Sat.qv h q
def CW.Wa{P:Program}{n:Nat}{N R:aA->World->Prop}{X G:List (Nat×(aA->World->Prop))}{L:aA}{w w0 o:World}{A d cs:List Chunk}{id:Nat}{l:List Oper}(j:List Nat)(i:Sat w0 (A++cs) o)(g:fj j 0 A=some d)(p:Plan)(H:P.follows .mixedOrders=true)(k:p.sg l=true)
  (h:RP P n l [λ W=>Sat w0 (d++cs) W] p N L w.drew):CW P n (.region id l.toArray true) ⟨N,R,X,G⟩ L w:=CW.draw (λ W=>Sat w0 (d++cs) W) p H k h
theorem CW.ek{P:Program}{n:Nat}{N R:aA->World->Prop}{X G:List (Nat×(aA->World->Prop))}{L:aA}{w w0 q:World}{A d g cs:List Chunk}{id:Nat}{l:List Oper}(o ks:List Nat)(j:Sat w0 (A++cs) q)(i:fj o 0 A=some d)(h2:fj ks 0 d=some g)(b:Nat)(p:Plan)(H:P.follows .mixedOrders=true)(k:p.vC l b=true)
  (h:RP P n l [λ W=>Sat w0 (d++cs) W,λ W=>Sat w0 (g++cs) W] p N L w.drew):CW P n (.region id l.toArray true) ⟨N,R,X,G⟩ L w:=CW.FA (λ W=>Sat w0 (d++cs) W) (λ W=>Sat w0 (g++cs) W) b p (λ W h=>h.gZ ks h2) H k h
def jl{P:Program}{n:Nat}{ops:List Oper}{K:aA->World->Prop}{L:aA}{w w0:World}{d:List (World->Prop)}{p:Plan}{A B cs:List Chunk}(i:List Nat)(h2:Sat w0 (B++cs) w)(H:fj i 0 B=some A)(h:RP P n ops ((λ u=>Sat w0 (B++cs) u)::d) p K L w):
  ∃ T:World->Prop,(∀ u,T u->(λ u=>Sat w0 (A++cs) u) u)/\T w/\RP P n ops (T::d) p K L w:=⟨_,λ _ h=>h.gZ i H,h2,h⟩
def lB{P:Program}{n:Nat}{ops:List Oper}{K:aA->World->Prop}{L:aA}{w:World}{S:World->Prop}{d:List (World->Prop)}{p:Plan}(h2:S w)(h:RP P n ops (S::d) p K L w):∃ T:World->Prop,(∀ u,T u->S u)/\T w/\RP P n ops (T::d) p K L w:=⟨S,λ _ h=>h,h2,h⟩
def il{z:Int}{n:Nat}(h:z=(n:Int)):some (Value.int .i64 z)=some (Value.int .i64 (n:Int)):=by rw[h]
