/-
 KD:slices of our own,sorted by the library,for the program logic of Kw. Our own text;it names no program.
-/
import Derived.Test.YthffkcnbdehceaaGreatKm
import Derived.Shelf.SlSortCmp.Kit1
import Derived.Sort.EncStr
import Derived.Lib.Bytealg
import Derived.Lib.Strings
import Derived.Shelf.Slices.In.SortNone
set_option linter.all false
open Go.Proofs.YthffkcnbdehceaaGreat
open List
namespace Go.Kw
open Go.RowKit Go.Sort Go.Proofs Go.Shelf
section
variable {α:Type} [Inhabited α] {enc:α->Value} {w w0:World} {cs:List Chunk}
def Nb{g:Nat}{cur:Array Value}{e:TypeId}{d:List α}(hb:w.heap[g]? =some (.cells cur e (0,0)))(ht:cur.toList.take d.length=d.map enc):Holds enc w g 0 d.toArray:=by
 intro j hj;have hj':j<d.length:=by simpa using hj
 refine⟨?_,by simp[World.frozen?,hb]⟩;have h1:(cur.toList.take d.length)[j]? =(d.map enc)[j]? :=by rw[ht]
 rw[UL hj']at h1;simp only[World.cell?,hb,RX];simp only[Option.isSome_none,SE,SX];rw[<-U2,h1];simp[hj']
def B9{g n:Nat}{os:Array Obj}{cur:Array Value}{e:TypeId}{fr:Nat×Nat}(d:Array α)(hb:w.heap[g]? =some (.cells cur e fr)):
  (sortWorld enc w g 0 n d os).heap[g]? =some (.cells (putCells enc 0 d cur) e fr):=by
 have hg:g<w.heap.size:=(TH.1 hb).1;unfold sortWorld;rw[heap_grow_old _ _ (by simpa using hg)];simp[putRow,mapBlock,Sort.ahead,Tv,hb,onCells]
def Ew{g n:Nat}{os:Array Obj}(d:Array α):Chg [g] w (sortWorld enc w g 0 n d os):=by
 unfold sortWorld;refine⟨Y,Y,Y,by simp,λ k hk hne=>?_⟩;rw[heap_grow_old _ _ (by simpa using hk)];have:g≠k:=λ e=>hne (by rw[e];exact RL.2 Y);simp[putRow,mapBlock,Sort.ahead,Tv,this]
def Ex(cur:Array Value)(ts:List α)(h:ts.length<=cur.size):(putCells enc 0 ts.toArray cur).toList.take ts.length=ts.map enc:=by
 apply TL;intro j;by_cases hj:j<ts.length
 ·rw[UL hj,U2];simp[putCells,hj,show j<cur.size by omega]
 ·rw[getElem?_take_eq_none (by omega),RN (by simp;omega)]
def Sat.J6(hs:Sat w0 cs w){i g n cap E:Nat}{ds:List α}(hn:ds.length=n)(hi:cs[i]? =some (pV (.slice (some ⟨g,0,none⟩) n cap) E 1 n (ds.map enc)))(ts:List α)(hl:ts.length=n)(m:Nat)(os:Array Obj):
  Sat w0 (cs.set i (pV (.slice (some ⟨g,0,none⟩) n cap) E 1 n (ts.map enc))) (sortWorld enc w g 0 m ts.toArray os):=by
 have hown:=hs.get hi;obtain⟨hl0,⟨hv,_⟩|⟨g',cap',cur,hv,hg0,hh,hnc,hcm,hcs,ht⟩⟩:=id hown
 ·cases hv
 ·cases hv;refine hs.set i hi (Ew ts.toArray) ⟨by simp[hl],.inr ⟨g,cap,_,Y,hg0,B9 ts.toArray hh,hnc,hcm,by simp[putCells,hcs],?_⟩⟩ (λ _ h=>.inl h);rw[SA,<-hl];exact Ex cur ts (by rw[hcs,SA];omega)
def Sat.Jj(hs:Sat w0 cs w){i g n cap E:Nat}{ds:List α}(hn:ds.length=n)(hi:cs[i]? =some (pV (.slice (some ⟨g,0,none⟩) n cap) E 1 n (ds.map enc))):Holds enc w g 0 ds.toArray/\g<w.heap.size:=by
 have hown:=hs.get hi;obtain⟨hl0,⟨hv,_⟩|⟨g',cap',cur,hv,hg0,hh,hnc,hcm,hcs,ht⟩⟩:=id hown
 ·cases hv
 ·cases hv;rw[SA]at ht;subst hn;exact⟨Nb hh ht,(TH.1 hh).1⟩
end
def Sat.Du{w0 w:World}{cs:List Chunk}(hs:Sat w0 cs w){i E size n:Nat}{v:Value}{cells:List Value}(hi:cs[i]? =some (pV v E size n cells)):(n=0/\v= .slice none 0 0)\/∃ g cap,v= .slice (some ⟨g,0,none⟩) n cap:=by
 obtain⟨hl0,h|⟨g',cap',cur,hv,_⟩⟩:=hs.get hi
 ·exact .inl ⟨h.2,h.1⟩
 ·exact .inr ⟨g',cap',hv⟩
def yx(l:List ByteArray):au.all l=(l.map λ s=>s.data.toList).map encStr:=by
 induction l with
 |nil=>rfl
 |cons s r ih=>rw[Enc.all_cons,Sg,Sg,ih];rfl
def yy{k:IntKind}(l:List Nat):(a8 k).all l=l.map λ(x:Nat)=>Value.int k (x:Int):=by
 induction l with
 |nil=>rfl
 |cons s r ih=>rw[Enc.all_cons,Sg,ih];rfl
def gV(l:List ByteArray):List ByteArray:=((l.map λ s=>s.data.toList).mergeSort λ x y=>decide (x<=y)).map λ l=>⟨l.toArray⟩
def nC(l:List ByteArray):(gV l).length=l.length:=by simp[gV]
def kJ{vs K:List ByteArray}(hn:K.Nodup)(hm:∀ x,x∈K↔x∈vs):gV K=aa vs:=qq hn hm
def Below.grown_of{W w':World}(h:RowKit.Below W.heap.size W w')(hd:W.drawn<=w'.drawn):∃ q os,w'=grow (W.drewN q) os:=by
 refine⟨w'.drawn-W.drawn,w'.heap.extract W.heap.size w'.heap.size,?_⟩;obtain⟨heap,tape,drawn,os,output⟩:=w';have h1:=h.os;have h2:=h.tape;have h3:=h.output;have h4:=h.size;have h5:=h.block;simp only at h1 h2 h3 h4 h5 hd;subst h1;subst h2;subst h3;have e:W.heap++heap.extract W.heap.size heap.size=heap:=by
  apply Array.ext_getElem?;intro k;rw[V9];split
  ·rename_i hk;rw[h5 k hk]
  ·rename_i hk
   rw[Array.getElem?_extract];by_cases hk2:k<heap.size
   ·rw[No (by omega)];congr 1;omega
   ·rw[M2 (by omega),V0 (by omega)]
 show _=({heap:=W.heap++heap.extract W.heap.size heap.size,tape:=W.tape,drawn:=W.drawn+(drawn-W.drawn),os:=W.os,output:=W.output}:World);rw[e];congr 1;omega
structure LexAt(w:World)(g:Nat)(vw vc vo:Value)(W:List ByteArray)(C O:List Nat):Prop where
 c0:w.cell? ⟨g,0,none⟩=some vw
 c1:w.cell? ⟨g,1,none⟩=some vc
 c2:w.cell? ⟨g,2,none⟩=some vo
 hW:RdL w vw au W
 hC:RdL w vc (a8 .i64) C
 hO:RdL w vo (a8 .i64) O
theorem LexAt.ext{w w':World}{g:Nat}{vw vc vo:Value}{W:List ByteArray}{C O:List Nat}(h:LexAt w g vw vc vo W C O)(he:Ext w w'):LexAt w' g vw vc vo W C O:=
 ⟨he _ _ h.c0,he _ _ h.c1,he _ _ h.c2,h.hW.ext he,h.hC.ext he,h.hO.ext he⟩
def Sat.wb{w0 w:World}{cs:List Chunk}(hs:Sat w0 cs w)(i j k l:Nat){g T:Nat}{vw vc vo:Value}{W:List ByteArray}{C O:List Nat}(hi:cs[i]? =some (aq g T [vw,vc,vo]))(hj:cs[j]? =some (cL vw 9 au W))
  (hk:cs[k]? =some (cL vc 3 (a8 .i64) C)) (hl:cs[l]? =some (cL vo 3 (a8 .i64) O)):LexAt w g vw vc vo W C O:=
 ⟨hs.cell (j:=0) hi Y,hs.cell (j:=1) hi Y,hs.cell (j:=2) hi Y,hs.ah j hj,hs.ah k hk,hs.ah l hl⟩
def rH:∀ (a b:List UInt8),Lib.compareBytes a b<0↔a<b
 |[],[]=>by simp[Lib.compareBytes]
 |[],_::_=>by simp[Lib.compareBytes]
 |_::_,[]=>by simp[Lib.compareBytes]
 |a::x,b::y=>by
  unfold Lib.compareBytes;rw[cons_lt_cons_iff];by_cases h1:a<b
  ·simp[h1]
  ·by_cases h2:b<a
   ·have:a≠b:=λ e=>by subst e;exact h1 h2
    simp[h1,h2,this]
   ·have:a=b:=UInt8.le_antisymm (UInt8.not_lt.1 h2) (UInt8.not_lt.1 h1);simp[h1,h2,this,rH x y]
def tN(W:List ByteArray)(s:ByteArray):Nat×Bool:=if W[di W s]? =some s then(di W s,true)else(0,false)
def jG(W:List ByteArray)(n:Int):ByteArray×Bool:=if 0<=n/\n<W.length then(W.getD n.toNat ByteArray.empty,true)else(ByteArray.empty,false)
def cH{α:Type}{l:List α}{k:Nat}{x d:α}(h:l[k]? =some x):l.getD k d=x:=by simp[KP,h]
def SLt.QY{a b c:ByteArray}(h:¬ SLt a b)(k:¬ SLt b c):¬ SLt a c:=λ hac=>by
 by_cases e:a=b
 ·exact k (e▸hac)
 ·exact k ((SLt.Jr h e).tr hac)
def GD{W:List ByteArray}(h:Asc W)(s:ByteArray){a b:Nat}(hab:a<=b)(hb:b<W.length)(hp:decide (¬ SLt (W.getD a ByteArray.empty) s)=true):decide (¬ SLt (W.getD b ByteArray.empty) s)=true:=by
 have ha':W[a]? =some W[a]:=py (by omega);have hb':W[b]? =some W[b]:=py hb;rw[cH ha',Ss]at hp;rw[cH hb',Ss];rcases Nat.eq_or_lt_of_le hab with e|e
 ·subst e;exact hp
 ·exact λ hh=>hp ((h.lt ha' hb' e).tr hh)
def Ey{W:List ByteArray}{s:ByteArray}{k:Nat}(h0:k<=W.length)(h1:∀ i,i<k->decide (¬ SLt (W.getD i ByteArray.empty) s)=false)(h2:∀ i,k<=i->i<W.length->decide (¬ SLt (W.getD i ByteArray.empty) s)=true):k=di W s:=by
 refine(xd h0 (λ j y hj hy=>?_) λ y hy=>?_).symm
 ·have:=h1 j hj;rw[cH hy]at this;exact Sj.1 (Tx this)
 ·have:=h2 k (KD _) (IN.1 hy).1;rw[cH hy]at this;exact Sw this
def Cj{W:List ByteArray}{s x:ByteArray}(hx:W[di W s]? =some x):tN W s=if x=s then(di W s,true)else(0,false):=by
 unfold tN;rw[hx];by_cases e:x=s<;>simp[e]
def GF{W:List ByteArray}{s:ByteArray}(h:W.length<=di W s):tN W s=(0,false):=by
 unfold tN;rw[RN h];simp
def GG{W:List ByteArray}{k:Nat}{x:ByteArray}(hx:W[k]? =some x):
  ((List.range k).map (qG W)++List.replicate (W.length-k) ByteArray.empty).set k (wP x)=(List.range (k+1)).map (qG W)++List.replicate (W.length-(k+1)) ByteArray.empty:=by
 have hk:=(IN.1 hx).1;rw[Sf _ _ (by simp),Rq,Ux,Se,show W.length-k=(W.length-(k+1))+1 by omega,TR,To,Si];simp[qG,hx]
def Ck{W:List ByteArray}{i:Nat}(h:i<W.length):((List.range W.length).map (qG W)).getD i ByteArray.empty=qG W i:=cH (by simp[h])
theorem dm{α:Type}{l:List α}{k:Nat}{x:α}(h:l[k]? =some x):x∈l:=Rv h
def fj:List ByteArray->Nat
 |[]=>0
 |v::r=>if 120<v.size then 2 else if dD v=false then 7 else fj r
def dy(vs:List ByteArray):Nat:=if 4096<vs.length then 2 else if fj vs≠0 then fj vs else if 1024<(aa vs).length then 2 else 0
def wK{vs:List ByteArray}(h:fj vs=0):∀ v∈vs,v.size<=120/\dD v=true:=by
 induction vs with
 |nil=>simp
 |cons v r ih=>
  unfold fj at h;split at h
  ·cases h
  ·rename_i h1
   split at h
   ·cases h
   ·rename_i h2
    intro u hu;rcases Rx.1 hu with rfl|hu
    ·exact⟨by omega,by simpa using h2⟩
    ·exact ih h u hu
def Cl{vs:List ByteArray}(h:fj vs=0):okW (aa vs):=⟨cw vs,λ w hw=>(wK h w (bK.1 hw)).2⟩
def Ez{vs K:List ByteArray}(hn:K.Nodup)(hm:∀ x,x∈K↔x∈vs):K.length=(aa vs).length:=by
 rw[<-kJ hn hm,nC]
def Sat.Jb{w0 w:World}{cs:List Chunk}(hs:Sat w0 cs w)(i:Nat){b:Nat}{m:cV}(hi:cs[i]? =some (qn b m)):(bB m).Nodup:=by
 obtain⟨es,clock,_,hst,hc⟩:=hs.get hi;exact oS hst hc
def Sat.OE{w0 w:World}{cs:List Chunk}(hs:Sat w0 cs w)(i:Nat){b r:Nat}{m done:cV}(hi:cs[i]? =some (Bd b r m done)):done.length<=m.length:=by
 obtain⟨es,clock,seen,rest,_,_,_,_,_,hp,_⟩:=hs.get hi;have:=hp.length_eq;rw[sp]at this;omega
def Sat.Mb{w0 w:World}{cs:List Chunk}(hs:Sat w0 cs w)(i:Nat){b r:Nat}{m done:cV}(hi:cs[i]? =some (Bd b r m done)):Sat w0 (cs.set i (qn b m)) w:=by
 obtain⟨es,clock,seen,rest,h1,h2,h3,_⟩:=hs.get hi;exact hs.set i hi ⟨Y,Y,Y,KD _,λ _ _ _=>Y⟩ ⟨es,clock,h1,h2,h3⟩ (λ k hk=>.inl (Rx.2 (.inl (RL.1 hk))))
def Ba{a b:cV}(h:a.Perm b):(bB a).Perm (bB b):=h.map _
def gw(m:cV):(bB m).length=m.length:=Rq ..
def Bb(m:cV)(s:ByteArray)(c:Nat):bB (m++[(s,c)])=bB m++[s]:=by simp[bB]
theorem ch{α:Type}{l:List α}{k:Nat}{x:α}(h:l[k]? =some x):l.take (k+1)=l.take k++[x]:=by rw[VG,h];rfl
def Cm{W:List ByteArray}(h:Asc W){s:ByteArray}(hs:s∈W):tN W s=(di W s,true):=by unfold tN;rw[No (h.get hs)]
def EA{f:ByteArray->Nat}{vs:List ByteArray}{k c:Nat}{x:ByteArray}(hx:vs[k]? =some x)(hc:c=f x):
  ((vs.take k).map f++List.replicate (vs.length-k) 0).set k c=(vs.take (k+1)).map f++List.replicate (vs.length-(k+1)) 0:=by
 have hk:=(IN.1 hx).1;have hl:((vs.take k).map f).length=k:=by simp;omega
 rw[Sf _ _ (by omega),hl,Se,show vs.length-k=(vs.length-(k+1))+1 by omega,TR,ch hx,Si];simp[hc]
