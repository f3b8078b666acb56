/-
 KD:slices of our own,sorted by the library,for the program logic of Kw. Our own text;it names no program.
-/
import Derived.Test.YthffkcnbdehceaaGreatKm
import Derived.Shelf.SlSortCmp.Kit1
import Derived.Sort.EncStr
import Derived.Lib.Bytealg
import Derived.Lib.Strings
import Derived.Shelf.Slices.In.SortNone
open Go.Proofs.YthffkcnbdehceaaGreat
open List
set_option linter.unusedVariables false
set_option linter.unusedSimpArgs false
set_option linter.unusedSectionVars false
namespace Go.Kw
open Go.RowKit Go.Sort Go.Proofs Go.Shelf
section
variable {α:Type} [Inhabited α] {enc:α->Value} {w w0:World} {cs:List Chunk}
theorem Lj {g:Nat} {cur:Array Value} {e:TypeId} {d:List α} (hb:w.heap[g]? =some (.cells cur e (0,0))) (ht:cur.toList.take d.length=d.map enc):Holds enc w g 0 d.toArray:=by
 intro j hj
 have hj':j<d.length:=by simpa using hj
 refine ⟨?_,by simp [World.frozen?,hb]⟩
 have h1:(cur.toList.take d.length)[j]? =(d.map enc)[j]? :=by rw [ht]
 rw [SU hj'] at h1
 simp only [World.cell?,hb,Qa]
 simp only [Option.isSome_none,QA,QP]
 rw [<-Se,h1]
 simp [hj']
theorem zS {g n:Nat} {os:Array Obj} {cur:Array Value} {e:TypeId} {fr:Nat×Nat} (d:Array α) (hb:w.heap[g]? =some (.cells cur e fr)):
  (sortWorld enc w g 0 n d os).heap[g]? =some (.cells (putCells enc 0 d cur) e fr):=by
 have hg:g<w.heap.size:=(Rx.1 hb).1
 unfold sortWorld
 rw [heap_grow_old _ _ (by simpa using hg)]
 simp [putRow,mapBlock,Sort.ahead,Rl,hb,onCells]
theorem D7 {g n:Nat} {os:Array Obj} (d:Array α):Chg [g] w (sortWorld enc w g 0 n d os):=by
 unfold sortWorld
 refine ⟨rfl,rfl,rfl,by simp,λ k hk hne=> ?_⟩
 rw [heap_grow_old _ _ (by simpa using hk)]
 have:g≠k:=λ e=>hne (by rw [e];exact Q0.2 rfl)
 simp [putRow,mapBlock,Sort.ahead,Rl,this]
theorem D8 (cur:Array Value) (ts:List α) (h:ts.length<=cur.size):(putCells enc 0 ts.toArray cur).toList.take ts.length=ts.map enc:=by
 apply RM
 intro j
 by_cases hj:j<ts.length
 ·rw [SU hj,Se]
  simp [putCells,hj,show j<cur.size by omega]
 ·rw [getElem?_take_eq_none (by omega),Q3 (by simp;omega)]
theorem Sat.HD (hs:Sat w0 cs w) {i g n cap E:Nat} {ds:List α} (hn:ds.length=n) (hi:cs[i]? =some (pj (.slice (some ⟨g,0,none⟩) n cap) E 1 n (ds.map enc))) (ts:List α) (hl:ts.length=n) (m:Nat) (os:Array Obj):
  Sat w0 (cs.set i (pj (.slice (some ⟨g,0,none⟩) n cap) E 1 n (ts.map enc))) (sortWorld enc w g 0 m ts.toArray os):=by
 have hown:=hs.get hi
 obtain ⟨hl0,⟨hv,_⟩|⟨g',cap',cur,hv,hg0,hh,hnc,hcm,hcs,ht⟩⟩:=id hown
 ·cases hv
 ·cases hv
  refine hs.set i hi (D7 ts.toArray) ⟨by simp [hl],.inr ⟨g,cap,_,rfl,hg0,zS ts.toArray hh,hnc,hcm,by simp [putCells,hcs],?_⟩⟩ (λ _ h=> .inl h)
  rw [QJ,<-hl]
  exact D8 cur ts (by rw [hcs,QJ];omega)
theorem Sat.HF (hs:Sat w0 cs w) {i g n cap E:Nat} {ds:List α} (hn:ds.length=n) (hi:cs[i]? =some (pj (.slice (some ⟨g,0,none⟩) n cap) E 1 n (ds.map enc))):Holds enc w g 0 ds.toArray/\g<w.heap.size:=by
 have hown:=hs.get hi
 obtain ⟨hl0,⟨hv,_⟩|⟨g',cap',cur,hv,hg0,hh,hnc,hcm,hcs,ht⟩⟩:=id hown
 ·cases hv
 ·cases hv
  rw [QJ] at ht
  subst hn
  exact ⟨Lj hh ht,(Rx.1 hh).1⟩
end
theorem Sat.Cd {w0 w:World} {cs:List Chunk} (hs:Sat w0 cs w) {i E size n:Nat} {v:Value} {cells:List Value} (hi:cs[i]? =some (pj v E size n cells)):(n=0/\v= .slice none 0 0)\/∃ g cap,v= .slice (some ⟨g,0,none⟩) n cap:=by
 obtain ⟨hl0,h|⟨g',cap',cur,hv,_⟩⟩:=hs.get hi
 ·exact .inl ⟨h.2,h.1⟩
 ·exact .inr ⟨g',cap',hv⟩
theorem xB (l:List ByteArray):ax.all l=(l.map λ s=>s.data.toList).map encStr:=by
 induction l with
 |nil=>rfl
 |cons s r ih=>rw [Enc.all_cons,Qm,Qm,ih];rfl
theorem xC {k:IntKind} (l:List Nat):(aa k).all l=l.map λ (x:Nat)=>Value.int k (x:Int):=by
 induction l with
 |nil=>rfl
 |cons s r ih=>rw [Enc.all_cons,Qm,ih];rfl
def iJ (l:List ByteArray):List ByteArray:=((l.map λ s=>s.data.toList).mergeSort λ x y=>decide (x<=y)).map λ l=>⟨l.toArray⟩
theorem n2 (l:List ByteArray):(iJ l).length=l.length:=by simp [iJ]
theorem pg {vs K:List ByteArray} (hn:K.Nodup) (hm:∀ x,x∈K↔x∈vs):iJ K=a8 vs:=pM hn hm
theorem Below.grown_of {W w':World} (h:RowKit.Below W.heap.size W w') (hd:W.drawn<=w'.drawn):∃ q os,w'=grow (W.drewN q) os:=by
 refine ⟨w'.drawn-W.drawn,w'.heap.extract W.heap.size w'.heap.size,?_⟩
 obtain ⟨heap,tape,drawn,os,output⟩:=w'
 have h1:=h.os;have h2:=h.tape;have h3:=h.output;have h4:=h.size;have h5:=h.block
 simp only at h1 h2 h3 h4 h5 hd
 subst h1;subst h2;subst h3
 have e:W.heap++heap.extract W.heap.size heap.size=heap:=by
  apply Array.ext_getElem?
  intro k
  rw [Tj]
  split
  ·rename_i hk;rw [h5 k hk]
  ·rename_i hk
   rw [Array.getElem?_extract]
   by_cases hk2:k<heap.size
   ·rw [PI (by omega)];congr 1;omega
   ·rw [M2 (by omega),Tc (by omega)]
 show _=({heap:=W.heap++heap.extract W.heap.size heap.size,tape:=W.tape,drawn:=W.drawn+(drawn-W.drawn),os:=W.os,output:=W.output}:World)
 rw [e]
 congr 1
 omega
structure LexAt (w:World) (g:Nat) (vw vc vo:Value) (W:List ByteArray) (C O:List Nat):Prop where
 c0:w.cell? ⟨g,0,none⟩=some vw
 c1:w.cell? ⟨g,1,none⟩=some vc
 c2:w.cell? ⟨g,2,none⟩=some vo
 hW:RdL w vw ax W
 hC:RdL w vc (aa .i64) C
 hO:RdL w vo (aa .i64) O
theorem LexAt.ext {w w':World} {g:Nat} {vw vc vo:Value} {W:List ByteArray} {C O:List Nat} (h:LexAt w g vw vc vo W C O) (he:Ext w w'):LexAt w' g vw vc vo W C O:=
 ⟨he _ _ h.c0,he _ _ h.c1,he _ _ h.c2,h.hW.ext he,h.hC.ext he,h.hO.ext he⟩
theorem Sat.uD {w0 w:World} {cs:List Chunk} (hs:Sat w0 cs w) (i j k l:Nat) {g T:Nat} {vw vc vo:Value} {W:List ByteArray} {C O:List Nat} (hi:cs[i]? =some (aq g T [vw,vc,vo])) (hj:cs[j]? =some (cL vw 9 ax W))
  (hk:cs[k]? =some (cL vc 3 (aa .i64) C)) (hl:cs[l]? =some (cL vo 3 (aa .i64) O)):LexAt w g vw vc vo W C O:=
 ⟨hs.cell (j:=0) hi rfl,hs.cell (j:=1) hi rfl,hs.cell (j:=2) hi rfl,hs.ah j hj,hs.ah k hk,hs.ah l hl⟩
theorem qL:∀ (a b:List UInt8),Lib.compareBytes a b<0↔a<b
 |[],[]=>by simp [Lib.compareBytes]
 |[],_::_=>by simp [Lib.compareBytes]
 |_::_,[]=>by simp [Lib.compareBytes]
 |a::x,b::y=>by
  unfold Lib.compareBytes
  rw [cons_lt_cons_iff]
  by_cases h1:a<b
  ·simp [h1]
  ·by_cases h2:b<a
   ·have:a≠b:=λ e=>by subst e;exact h1 h2
    simp [h1,h2,this]
   ·have:a=b:=UInt8.le_antisymm (UInt8.not_lt.1 h2) (UInt8.not_lt.1 h1)
    simp [h1,h2,this,qL x y]
def HP (W:List ByteArray) (s:ByteArray):Nat×Bool:=if W[bJ W s]? =some s then (bJ W s,true) else (0,false)
def j8 (W:List ByteArray) (n:Int):ByteArray×Bool:=if 0<=n/\n<W.length then (W.getD n.toNat ByteArray.empty,true) else (ByteArray.empty,false)
theorem cF {α:Type} {l:List α} {k:Nat} {x d:α} (h:l[k]? =some x):l.getD k d=x:=by simp [KW,h]
theorem SLt.P9 {a b c:ByteArray} (h:¬ SLt a b) (k:¬ SLt b c):¬ SLt a c:=λ hac=>by
 by_cases e:a=b
 ·exact k (e▸hac)
 ·exact k ((SLt.HT h e).tr hac)
theorem EY {W:List ByteArray} (h:Asc W) (s:ByteArray) {a b:Nat} (hab:a<=b) (hb:b<W.length) (hp:decide (¬ SLt (W.getD a ByteArray.empty) s)=true):decide (¬ SLt (W.getD b ByteArray.empty) s)=true:=by
 have ha':W[a]? =some W[a]:=py (by omega)
 have hb':W[b]? =some W[b]:=py hb
 rw [cF ha',QC] at hp
 rw [cF hb',QC]
 rcases Nat.eq_or_lt_of_le hab with e|e
 ·subst e;exact hp
 ·exact λ hh=>hp ((h.lt ha' hb' e).tr hh)
theorem D9 {W:List ByteArray} {s:ByteArray} {k:Nat} (h0:k<=W.length) (h1:∀ i,i<k->decide (¬ SLt (W.getD i ByteArray.empty) s)=false) (h2:∀ i,k<=i->i<W.length->decide (¬ SLt (W.getD i ByteArray.empty) s)=true):k=bJ W s:=by
 refine (vZ h0 (λ j y hj hy=> ?_) λ y hy=> ?_).symm
 ·have:=h1 j hj
  rw [cF hy] at this
  exact Qf.1 (Rm this)
 ·have:=h2 k (KB _) (AT.1 hy).1
  rw [cF hy] at this
  exact Qw this
theorem Bc {W:List ByteArray} {s x:ByteArray} (hx:W[bJ W s]? =some x):HP W s=if x=s then (bJ W s,true) else (0,false):=by
 unfold HP;rw [hx]
 by_cases e:x=s<;>simp [e]
theorem EZ {W:List ByteArray} {s:ByteArray} (h:W.length<=bJ W s):HP W s=(0,false):=by
 unfold HP;rw [Q3 h];simp
theorem F0 {W:List ByteArray} {k:Nat} {x:ByteArray} (hx:W[k]? =some x):
  ((List.range k).map (qm W)++List.replicate (W.length-k) ByteArray.empty).set k (vz x)=(List.range (k+1)).map (qm W)++List.replicate (W.length-(k+1)) ByteArray.empty:=by
 have hk:=(AT.1 hx).1
 rw [Qq _ _ (by simp),No,SZ,Qp,show W.length-k=(W.length-(k+1))+1 by omega,Sa,Ru,Ql]
 simp [qm,hx]
theorem Bd {W:List ByteArray} {i:Nat} (h:i<W.length):((List.range W.length).map (qm W)).getD i ByteArray.empty=qm W i:=cF (by simp [h])
theorem di {α:Type} {l:List α} {k:Nat} {x:α} (h:l[k]? =some x):x∈l:=PO h
def eu:List ByteArray->Nat
 |[]=>0
 |v::r=>if 120<v.size then 2 else if dw v=false then 7 else eu r
def dn (vs:List ByteArray):Nat:=if 4096<vs.length then 2 else if eu vs≠0 then eu vs else if 1024<(a8 vs).length then 2 else 0
theorem vk {vs:List ByteArray} (h:eu vs=0):∀ v∈vs,v.size<=120/\dw v=true:=by
 induction vs with
 |nil=>simp
 |cons v r ih=>
  unfold eu at h
  split at h
  ·cases h
  ·rename_i h1
   split at h
   ·cases h
   ·rename_i h2
    intro u hu
    rcases PR.1 hu with rfl|hu
    ·exact ⟨by omega,by simpa using h2⟩
    ·exact ih h u hu
theorem Be {vs:List ByteArray} (h:eu vs=0):okW (a8 vs):=⟨dM vs,λ w hw=>(vk h w (cB.1 hw)).2⟩
theorem Da {vs K:List ByteArray} (hn:K.Nodup) (hm:∀ x,x∈K↔x∈vs):K.length=(a8 vs).length:=by
 rw [<-pg hn hm,n2]
theorem Sat.Hw {w0 w:World} {cs:List Chunk} (hs:Sat w0 cs w) (i:Nat) {b:Nat} {m:cU} (hi:cs[i]? =some (pJ b m)):(bp m).Nodup:=by
 obtain ⟨es,clock,_,hst,hc⟩:=hs.get hi
 exact om hst hc
theorem Sat.MQ {w0 w:World} {cs:List Chunk} (hs:Sat w0 cs w) (i:Nat) {b r:Nat} {m done:cU} (hi:cs[i]? =some (zW b r m done)):done.length<=m.length:=by
 obtain ⟨es,clock,seen,rest,_,_,_,_,_,hp,_⟩:=hs.get hi
 have:=hp.length_eq
 rw [sp] at this;omega
theorem Sat.Kh {w0 w:World} {cs:List Chunk} (hs:Sat w0 cs w) (i:Nat) {b r:Nat} {m done:cU} (hi:cs[i]? =some (zW b r m done)):Sat w0 (cs.set i (pJ b m)) w:=by
 obtain ⟨es,clock,seen,rest,h1,h2,h3,_⟩:=hs.get hi
 exact hs.set i hi ⟨rfl,rfl,rfl,KB _,λ _ _ _=>rfl⟩ ⟨es,clock,h1,h2,h3⟩ (λ k hk=> .inl (PR.2 (.inl (Q0.1 hk))))
theorem zT {a b:cU} (h:a.Perm b):(bp a).Perm (bp b):=h.map _
theorem fV (m:cU):(bp m).length=m.length:=No ..
theorem zU (m:cU) (s:ByteArray) (c:Nat):bp (m++[(s,c)])=bp m++[s]:=by simp [bp]
theorem aR {α:Type} {l:List α} {k:Nat} {x:α} (h:l[k]? =some x):l.take (k+1)=l.take k++[x]:=by rw [TP,h];rfl
theorem II {W:List ByteArray} (h:Asc W) {s:ByteArray} (hs:s∈W):HP W s=(bJ W s,true):=by unfold HP;rw [PI (h.get hs)]
theorem Db {f:ByteArray->Nat} {vs:List ByteArray} {k c:Nat} {x:ByteArray} (hx:vs[k]? =some x) (hc:c=f x):
  ((vs.take k).map f++List.replicate (vs.length-k) 0).set k c=(vs.take (k+1)).map f++List.replicate (vs.length-(k+1)) 0:=by
 have hk:=(AT.1 hx).1
 have hl:((vs.take k).map f).length=k:=by simp;omega
 rw [Qq _ _ (by omega),hl,Qp,show vs.length-k=(vs.length-(k+1))+1 by omega,Sa,aR hx,Ql]
 simp [hc]
end Go.Kw
