/-
 KD:slices of our own,sorted by the library,for the program logic of Kw. Our own text;it names no program.
-/
import Derived.Test.YtcgidfgdbhihbaaGreatDoorKc
import Derived.Shelf.SlSortCmp.Kit1
import Derived.Sort.EncStr
import Derived.Lib.Bytealg
import Derived.Lib.Strings
import Derived.Shelf.Slices.In.SortNone
open List renaming length→I,take→J
open ByteArray renaming empty→wt
set_option linter.all false
open Go.Proofs.YtcgidfgdbhihbaaGreatDoor
open List
namespace Go.Kw
open Go.RowKit Go.Sort Go.Proofs Go.Shelf
section
variable {α:Type} [Inhabited α] {enc:α->Value} {w w0:World} {cs:List Chunk}
def RE{g:Nat}{r:Array Value}{e:TypeId}{d:List α}(k:w.heap[g]? =some (.cells r e (0,0)))(t:J (I d) r.toList=d.map enc):Holds enc w g 0 d.toArray:=by
 intro j l;have H:j<I d:=a2Q
 refine⟨?_,by simp[World.frozen?,k]⟩;have i:(J (I d) r.toList)[j]? =(d.map enc)[j]? :=by rw[t]
 rw[a08 H]at i;simp only[World.cell?,k,XU];simp only[Option.isSome_none,Yq,Yy];rw[<-ZS,i];simp[H]
def D0{g n:Nat}{os:Array Obj}{r:Array Value}{e:TypeId}{i:Nat×Nat}(d:Array α)(H:w.heap[g]? =some (.cells r e i)):
  (sortWorld enc w g 0 n d os).heap[g]? =some (.cells (putCells enc 0 d r) e i):=by
 have j:g<w.heap.size:=(Z5.1 H).1;unfold sortWorld;rw[heap_grow_old _ _ a4P];simp[putRow,mapBlock,Sort.ahead,Z9,H,onCells]
def H2{g n:Nat}{os:Array Obj}(d:Array α):Chg [g] w (sortWorld enc w g 0 n d os):=by
 unfold sortWorld;refine⟨Y,Y,Y,bw,λ k i H=>?_⟩;rw[heap_grow_old _ _ (by simpa using i)];have:g≠k:=λ e=>H (by rw[e];exact XJ.2 Y);simp[putRow,mapBlock,Sort.ahead,Z9,this]
def H3(r:Array Value)(ts:List α)(h:I ts<=r.size):J (I ts) (putCells enc 0 ts.toArray r).toList=ts.map enc:=by
 apply ZC;intro j;by_cases H:j<I ts
 ·rw[a08 H,ZS];simp[putCells,H,show j<r.size by omega]
 ·rw[getElem?_take_eq_none O,XQ cf]
def Sat.Mr(u:Sat w0 cs w){i g n cap E:Nat}{ds:List α}(K:I ds=n)(q:cs[i]? =some (rI (.slice (some ⟨g,0,none⟩) n cap) E 1 n (ds.map enc)))(ts:List α)(t:I ts=n)(m:Nat)(os:Array Obj):
  Sat w0 (cs.set i (rI (.slice (some ⟨g,0,none⟩) n cap) E 1 n (ts.map enc))) (sortWorld enc w g 0 m ts.toArray os):=by
 have d:=u.get q;obtain⟨A,⟨o,_⟩|⟨D,p,r,o,k,y,l,j,H,N⟩⟩:=id d
 ·cases o
 ·cases o;refine u.set i q (H2 ts.toArray) ⟨by simp[t],.inr ⟨g,cap,_,Y,k,D0 ts.toArray y,l,j,by simp[putCells,H],?_⟩⟩ (λ _ h=>.inl h);rw[Yj,<-t];exact H3 r ts (by rw[H,Yj];omega)
def Sat.Mn(D:Sat w0 cs w){i g n cap E:Nat}{ds:List α}(y:I ds=n)(q:cs[i]? =some (rI (.slice (some ⟨g,0,none⟩) n cap) E 1 n (ds.map enc))):Holds enc w g 0 ds.toArray/\g<w.heap.size:=by
 have H:=D.get q;obtain⟨u,⟨d,_⟩|⟨K,j,r,d,p,k,A,l,o,t⟩⟩:=id H
 ·cases d
 ·cases d;rw[Yj]at t;subst y;exact⟨RE k t,(Z5.1 k).1⟩
end
def Sat.Fz{w0 w:World}{cs:List Chunk}(o:Sat w0 cs w){i E size n:Nat}{v:Value}{d:List Value}(H:cs[i]? =some (rI v E size n d)):(n=0/\v= .slice none 0 0)\/∃ g p,v= .slice (some ⟨g,0,none⟩) n p:=by
 obtain⟨l,h|⟨k,j,r,q,_⟩⟩:=o.get H
 ·exact .inl ⟨h.2,h.1⟩
 ·exact .inr ⟨k,j,q⟩
def As(l:List ByteArray):aw.all l=(l.map λ s=>s.data.toList).map encStr:=by
 induction l with
 |nil=>rfl
 |cons s r i=>rw[Enc.all_cons,XZ,XZ,i];rfl
def Au{k:IntKind}(l:List Nat):(a7 k).all l=l.map λ(x:Nat)=>Value.int k (x:Int):=by
 induction l with
 |nil=>rfl
 |cons s r i=>rw[Enc.all_cons,XZ,i];rfl
def jY(l:List ByteArray):List ByteArray:=((l.map λ s=>s.data.toList).mergeSort λ x y=>decide (x<=y)).map λ l=>⟨l.toArray⟩
def pz(l:List ByteArray):I (jY l)=I l:=by simp[jY]
def rG{vs K:List ByteArray}(d:K.Nodup)(H:∀ x,x∈K↔x∈vs):jY K=ah vs:=sd d H
def Below.grown_of{W w':World}(h:RowKit.Below W.heap.size W w')(hd:W.drawn<=w'.drawn):∃ q l,w'=grow (W.drewN q) l:=by
 refine⟨w'.drawn-W.drawn,w'.heap.extract W.heap.size w'.heap.size,?_⟩;obtain⟨p,t,d,l,o⟩:=w';have H:=h.os;have g:=h.tape;have i:=h.output;have r:=h.size;have j:=h.block;simp only at H g i r j hd;subst H;subst g;subst i;have e:W.heap++p.extract W.heap.size p.size=p:=by
  apply Array.ext_getElem?;intro k;rw[a1s];split
  ·rename_i hk;rw[j k hk]
  ·rename_i hk
   rw[Array.getElem?_extract];by_cases u:k<p.size
   ·rw[Xp O];congr 1;omega
   ·rw[Xn O,a1m O]
 show _=({heap:=W.heap++p.extract W.heap.size p.size,tape:=W.tape,drawn:=W.drawn+(d-W.drawn),os:=W.os,output:=W.output}:World);rw[e];congr 1;omega
structure LexAt(w:World)(g:Nat)(vw vc vo:Value)(W:List ByteArray)(C O:List Nat):Prop where
 c0:w.cell? ⟨g,0,none⟩=some vw
 c1:w.cell? ⟨g,1,none⟩=some vc
 c2:w.cell? ⟨g,2,none⟩=some vo
 hW:RdL w vw aw W
 hC:RdL w vc (a7 .i64) C
 hO:RdL w vo (a7 .i64) O
theorem LexAt.E{w w':World}{g:Nat}{j d i:Value}{W:List ByteArray}{C o:List Nat}(h:LexAt w g j d i W C o)(he:Ext w w'):LexAt w' g j d i W C o:=
 ⟨he _ _ h.c0,he _ _ h.c1,he _ _ h.c2,h.hW.E he,h.hC.E he,h.hO.E he⟩
def Sat.xW{w0 w:World}{cs:List Chunk}(H:Sat w0 cs w)(i j k l:Nat){g T:Nat}{r p q:Value}{W:List ByteArray}{C o:List Nat}(d:cs[i]? =some (ai g T [r,p,q]))(hj:cs[j]? =some (cL r 9 aw W))
  (t:cs[k]? =some (cL p 3 (a7 .i64) C)) (u:cs[l]? =some (cL q 3 (a7 .i64) o)):LexAt w g r p q W C o:=
 ⟨H.cell (j:=0) d Y,H.cell (j:=1) d Y,H.cell (j:=2) d Y,H.aj j hj,H.aj k t,H.aj l u⟩
def tO:∀ (a b:List UInt8),Lib.compareBytes a b<0↔a<b
 |[],[]=>by simp[Lib.compareBytes]
 |[],_::_=>by simp[Lib.compareBytes]
 |_::_,[]=>by simp[Lib.compareBytes]
 |a::x,b::y=>by
  unfold Lib.compareBytes;rw[cons_lt_cons_iff];by_cases H:a<b
  ·simp[H]
  ·by_cases d:b<a
   ·have:a≠b:=λ e=>by subst e;exact H d
    simp[H,d,this]
   ·have:a=b:=UInt8.le_antisymm (UInt8.not_lt.1 d) (UInt8.not_lt.1 H);simp[H,d,this,tO x y]
def MH(W:List ByteArray)(s:ByteArray):Nat×Bool:=if W[dL W s]? =some s then(dL W s,true)else(0,false)
def kO(W:List ByteArray)(n:Int):ByteArray×Bool:=if 0<=n/\n<I W then(W.getD n.toNat wt,true)else(wt,false)
def cZ{α:Type}{l:List α}{k:Nat}{x d:α}(h:l[k]? =some x):l.getD k d=x:=by simp[KV,h]
def SLt.WY{a b c:ByteArray}(h:¬ SLt a b)(k:¬ SLt b c):¬ SLt a c:=λ H=>by
 by_cases e:a=b
 ·exact k (e▸H)
 ·exact k ((SLt.ML h e).tr H)
def Jr{W:List ByteArray}(h:Asc W)(s:ByteArray){a b:Nat}(g:a<=b)(i:b<I W)(p:decide (¬ SLt (W.getD a wt) s)=true):decide (¬ SLt (W.getD b wt) s)=true:=by
 have H:W[a]? =some W[a]:=py O;have d:W[b]? =some W[b]:=py i;rw[cZ H,XS]at p;rw[cZ d,XS];rcases Nat.eq_or_lt_of_le g with e|e
 ·subst e;exact p
 ·exact λ j=>p ((h.lt H d e).tr j)
def H4{W:List ByteArray}{s:ByteArray}{k:Nat}(h0:k<=I W)(h1:∀ i,i<k->decide (¬ SLt (W.getD i wt) s)=false)(h2:∀ i,k<=i->i<I W->decide (¬ SLt (W.getD i wt) s)=true):k=dL W s:=by
 refine(yu h0 (λ j y d H=>?_) λ y H=>?_).symm
 ·have:=h1 j d;rw[cZ H]at this;exact Y3.1 (YY this)
 ·have:=h2 k (KM _) (KC.1 H).1;rw[cZ H]at this;exact XR this
def Ej{W:List ByteArray}{s x:ByteArray}(H:W[dL W s]? =some x):MH W s=if x=s then(dL W s,true)else(0,false):=by
 unfold MH;rw[H];by_cases e:x=s<;>simp[e]
def Js{W:List ByteArray}{s:ByteArray}(h:I W<=dL W s):MH W s=(0,false):=by
 unfold MH;rw[XQ h];simp
def Jt{W:List ByteArray}{k:Nat}{x:ByteArray}(H:W[k]? =some x):
  ((List.range k).map (sE W)++List.replicate (I W-k) wt).set k (yr x)=(List.range (k+1)).map (sE W)++List.replicate (I W-(k+1)) wt:=by
 have d:=(KC.1 H).1;rw[Y2 _ _ bw,Xu,a0r,Y4,show I W-k=(I W-(k+1))+1 by omega,Zx,YK,Y0];simp[sE,H]
def Ek{W:List ByteArray}{i:Nat}(h:i<I W):((List.range (I W)).map (sE W)).getD i wt=sE W i:=cZ a5f
theorem dK{α:Type}{l:List α}{k:Nat}{x:α}(h:l[k]? =some x):x∈l:=Xs h
def fX:List ByteArray->Nat
 |[]=>0
 |v::r=>if 120<v.size then 2 else if dA v=false then 7 else fX r
def dW(vs:List ByteArray):Nat:=if 4096<I vs then 2 else if fX vs≠0 then fX vs else if 1024<I (ah vs) then 2 else 0
def yo{vs:List ByteArray}(h:fX vs=0):∀ v∈vs,v.size<=120/\dA v=true:=by
 induction vs with
 |nil=>simp
 |cons v r i=>
  unfold fX at h;split at h
  ·cases h
  ·rename_i h1
   split at h
   ·cases h
   ·rename_i h2
    intro u H;rcases Xr.1 H with rfl|H
    ·exact⟨O,by simpa using h2⟩
    ·exact i h u H
def El{vs:List ByteArray}(h:fX vs=0):okW (ah vs):=⟨eC vs,λ w hw=>(yo h w (cT.1 hw)).2⟩
def H5{vs K:List ByteArray}(d:K.Nodup)(H:∀ x,x∈K↔x∈vs):I K=I (ah vs):=by
 rw[<-rG d H,pz]
def Sat.MA{w0 w:World}{cs:List Chunk}(g:Sat w0 cs w)(i:Nat){b:Nat}{m:dD}(d:cs[i]? =some (rX b m)):(bJ m).Nodup:=by
 obtain⟨E,k,_,t,H⟩:=g.get d;exact qH t H
def Sat.TQ{w0 w:World}{cs:List Chunk}(d:Sat w0 cs w)(i:Nat){b r:Nat}{m done:dD}(H:cs[i]? =some (CV b r m done)):I done<=I m:=by
 obtain⟨E,k,seen,t,_,_,_,_,_,p,_⟩:=d.get H;have:=p.length_eq;rw[AT]at this;omega
def Sat.PZ{w0 w:World}{cs:List Chunk}(g:Sat w0 cs w)(i:Nat){b r:Nat}{m done:dD}(H:cs[i]? =some (CV b r m done)):Sat w0 (cs.set i (rX b m)) w:=by
 obtain⟨E,d,seen,t,j,l,o,_⟩:=g.get H;exact g.set i H ⟨Y,Y,Y,KM _,λ _ _ _=>Y⟩ ⟨E,d,j,l,o⟩ (λ k p=>.inl (Xr.2 (.inl (XJ.1 p))))
def D1{a b:dD}(h:a.Perm b):(bJ a).Perm (bJ b):=h.map _
def iA(m:dD):I (bJ m)=I m:=Xu ..
def D2(m:dD)(s:ByteArray)(c:Nat):bJ (m++[(s,c)])=bJ m++[s]:=by simp[bJ]
theorem cF{α:Type}{l:List α}{k:Nat}{x:α}(h:l[k]? =some x):J (k+1) l=J k l++[x]:=by rw[ZD,h];rfl
def O5{W:List ByteArray}(h:Asc W){s:ByteArray}(H:s∈W):MH W s=(dL W s,true):=by unfold MH;rw[Xp (h.get H)]
def H6{f:ByteArray->Nat}{vs:List ByteArray}{k c:Nat}{x:ByteArray}(H:vs[k]? =some x)(d:c=f x):
  ((J k vs).map f++List.replicate (I vs-k) 0).set k c=(J (k+1) vs).map f++List.replicate (I vs-(k+1)) 0:=by
 have g:=(KC.1 H).1;have l:I ((J k vs).map f)=k:=by simp;omega
 rw[Y2 _ _ O,l,Y4,show I vs-k=(I vs-(k+1))+1 by omega,Zx,cF H,Y0];simp[d]
