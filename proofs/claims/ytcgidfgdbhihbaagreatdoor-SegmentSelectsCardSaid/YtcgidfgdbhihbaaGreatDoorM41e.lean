/-
 M41e:the words of values,put in from the end;what a list of numbers and the places come to,word by word. No program in sight.
-/
import Derived.Test.YtcgidfgdbhihbaaGreatDoorM41r
open List renaming length→I,take→J,drop→ww
set_option linter.all false
open Go.Proofs.YtcgidfgdbhihbaaGreatDoor
open List
namespace Go.Kw
def SC(W:List ByteArray)(y:ByteArray):Nat->Bool
 |0=>false
 |j+1=>match W[j]? with
  |some z=>decide (SLt y z)
  |none=>false
def Uj(W:List ByteArray)(y:ByteArray):Nat->Bool
 |0=>true
 |j+1=>match W[j]? with
  |some z=>decide (¬ z=y)
  |none=>true
def yI{W:List ByteArray}{y z:ByteArray}{j:Nat}(h:0<j)(H:W[j-1]? =some z):SC W y j=decide (SLt y z):=by
 cases j with
 |zero=>omega
 |succ j=>rw[Yh]at H;simp[SC,H]
def L2{W:List ByteArray}{y:ByteArray}{j:Nat}(h:¬ 0<j):SC W y j=false:=by rw[show j=0 by omega];rfl
def yJ{W:List ByteArray}{y z:ByteArray}{j:Nat}(h:0<j)(H:W[j-1]? =some z):Uj W y j=decide (¬ z=y):=by
 cases j with
 |zero=>omega
 |succ j=>rw[Yh]at H;simp[Uj,H]
def Br{W:List ByteArray}{y:ByteArray}{j:Nat}(h:¬ 0<j):Uj W y j=true:=by rw[show j=0 by omega];rfl
def L4{W:List ByteArray}{y:ByteArray}{j:Nat}(h:SC W y j=true):0<j:=by
 cases j with
 |zero=>cases h
 |succ j=>omega
def P3{W:List ByteArray}{y:ByteArray}{j:Nat}(h:SC W y j=true)(hg:∀ (i:Nat) z,j<=i->W[i]? =some z->SLt y z):∀ (i:Nat) z,j-1<=i->W[i]? =some z->SLt y z:=λ i z g d=>by
 rcases XI i j with H|H
 ·have e:i=j-1:=O
  subst e;rw[yI (L4 h) d]at h;exact XR h
 ·exact hg i z H d
section
variable {vals:List ByteArray} {y:ByteArray} {j:Nat} (hj:j<=I (ah vals)) (hg:∀ (i:Nat) z,j<=i->(ah vals)[i]? =some z->SLt y z) (hf:SC (ah vals) y j=false)
include hj hg hf
def Hy(H:Uj (ah vals) y j=false):ah (vals++[y])=ah vals:=by
 have g:0<j:=Decidable.byContradiction λ h=>by rw[Br h]at H;cases H
 obtain⟨z,d⟩:=ut (ah vals) (j-1) O;rw[yJ g d]at H;have e:z=y:=Y3.1 (YY H);subst e;rw[dY,addW,Xp ((eC vals).get (Xs d))]
def Hz(q:Uj (ah vals) y j=true):ah (vals++[y])=J j (ah vals)++y::ww j (ah vals):=by
 have t:∀ (i:Nat) z,i<j->(ah vals)[i]? =some z->SLt z y:=λ i z r H=>by
  have g:0<j:=O
  obtain⟨x,d⟩:=ut (ah vals) (j-1) O;rw[yJ g d]at q;rw[yI g d]at hf;have k:SLt x y:=SLt.ML (YY hf) λ e=>XR q e.symm;rcases XI i (j-1)with l|l
  ·exact((eC vals).lt H d l).tr k
  ·rw[show i=j-1 by omega,d]at H;cases H;exact k
 have p:dL (ah vals) y=j:=yu hj t λ z H=>(hg j z (KM _) H).Uf;have o:¬ (ah vals)[dL (ah vals) y]? =some y:=λ h=>by rw[p]at h;exact SLt.vJ y (hg j y (KM _) h)
 rw[dY,addW,Xn o,k6];subst p;rfl
end
def qU(l:List Nat)(k q m:Nat):List Nat:=if m<q then l.take (k+1)else J k l
def Bs(l:List Nat)(k m:Nat):qU l k 0 m=J k l:=Xn (Zw m)
def yK{l:List Nat}{k q m:Nat}(h:m<q):qU l k q m=J (k+1) l:=Xp h
def SD{l:List Nat}{k q:Nat}(h:l[k]? =some q):qU l k q q++[q]=qU l k (q+1) q:=by
 rw[qU,qU,Xn (a15 q),Xp (Nat.lt_succ_self q),ao h]
def L6{l:List Nat}{k q m:Nat}(h:q≠m):qU l k (q+1) m=qU l k q m:=by
 unfold qU;by_cases H:m<q
 ·rw[Xp H,Xp O]
 ·rw[Xn H,Xn O]
def yL{us:List ByteArray}{x z:ByteArray}{q k:Nat}(g:us[k]? =some x)(d:(ah us)[q]? =some z):x=z↔q=dL (ah us) x:=by
 have H:=kU (a8 g);constructor
 ·rintro rfl;exact(eC us).inj d H
 ·rintro rfl;rw[d]at H;exact(Y8 H).symm
def P4{l:List Nat}{k q m:Nat}(h:l[k]? =some m)(e:q=m):qU l k q m++[q]=qU l k (q+1) m:=by subst e;exact SD h
def P5{l:List Nat}{S:List (SV×List Nat)}{n k q m:Nat}{p:SV×List Nat}{sv:SV}(h:l[k]? =some m)(e:q=m)(H:S.map Prod.snd=(List.range n).map (fq (qU l k q m)))(d:S[q]? =some p):(S.set q (sv,p.2++[k])).map Prod.snd=(List.range n).map (fq (qU l k (q+1) m)):=by
 subst e;rw[yK (Nat.lt_succ_self q)];rw[qU,Xn (a15 q)]at H;exact Bw h H d
def HA(n:Nat):List.replicate n false=aY 0 n:=by
 apply a01
 ·rw[Zf,aK]
 ·intro i g H;have d:=py H;rw[ql 0 n i (by rw[aK]at H;exact H)]at d;rw[<-Y8 d];simp
def HB(l:List Nat)(k:Nat):List Nat:=(List.range k).map λ i=>I (cE 0 (J i l))
def sH(l:List Nat)(k:Nat):I (HB l k)=k:=by simp[HB]
def L7(l:List Nat)(k:Nat):HB l k++[I (cE 0 (J k l))]=HB l (k+1):=by simp[HB,YK]
def EU{l:List Nat}{k i:Nat}(h:i<k):(HB l k)[i]? =some (I (cE 0 (J i l))):=by simp[HB,h]
def P6{l:List Nat}{k x:Nat}(h:l[k]? =some x):cE 0 (J k l)++gx (x+1-z8 l k)=cE 0 (J (k+1) l):=by rw[ao h,vi];rfl
def P7(l:List Nat):∀ (i j:Nat),i<=j->I (cE 0 (J i l))<=I (cE 0 (J j l)):=λ i j h=>by
 have e:J j l=J i l++ww i (J j l):=by
  conv=>lhs;rw[<-XV i (J j l)]
  rw[take_take,Y5 h]
 rw[e,sN,AT];omega
def L8{l:List Nat}{q:Nat}(h:16*q<I l):(iL l (I l)).getD q (0,0)=(l.getD (16*q) 0,I (cE 0 (J (16*q) l))):=by
 have d:=lx l (I l);obtain⟨x,H⟩:=ut (iL l (I l)) q O;rw[KV,H,YZ];exact(qn l _ _ _ H).1
def EV{l:List Nat}{q x y:Nat}(h:16*q<I l)(h1:1<=q)(H:l[16*q]? =some x)(d:l[16*q-16]? =some y):
  sO (iL l (I l)) q++uv (x-y)++uv (I (cE 0 (J (16*q) l))-I (cE 0 (J (16*q-16) l)))=sO (iL l (I l)) (q+1):=by
 conv=>rhs;unfold sO
 rw[Xn O,L8 h,L8 (q:=q-1) O,show 16*(q-1)=16*q-16 by omega];rw[KV,KV,H,d];rfl
def sd_end{l:List Nat}{q:Nat}(h1:1<=q)(h:I l<=16*q)(h2:16*q<=I l+15\/q=1):sO (iL l (I l)) q=sO (iL l (I l)) (I (iL l (I l))):=by
 rw[lx];rcases Yv (I l) with H|H
 ·rw[show q=1 by omega,H];rfl
 ·rw[show(I l+15)/16=q by omega]
def P8:Lib.bitLen 1=1:=bl
theorem OkP.le{l:List Nat}(h:OkP l){i j y x:Nat}(p:l[i]? =some y)(o:l[j]? =some x)(H:i<j):y<=x:=by
 have d:=KC.1 p;have g:=KC.1 o;obtain⟨k,rfl⟩:=d;obtain⟨hj,rfl⟩:=g;exact Nat.le_of_lt (YJ.1 h.asc i j k hj H)
end Go.Kw
namespace Go.Kw
open Go.RowKit Go.MapKept
def Uk(b m:Nat):Chunk where
 foot:=[b]
 holds w:=∃ E k,w.heap[b]? =some (.map E k)/\Stamped E k/\E.size<=m/\∀ x∈E.toList,IsKey .string x.key
 stable w w' h hc:=by obtain⟨E,k,H,r⟩:=hc;exact⟨E,k,by rw[h b bw];exact H,r⟩
section
variable {P:Program} {n:Nat} {L:aA} {w w0:World} {cs:List Chunk} {K:Value->World->Prop} {d:Option Nat} {ty:TypeId} {pos:String} {af:Array Edge} {g:Option (Nat×Bool)}
def OpE.Ua{t:TypeId}(H:Sat w0 cs w)(k:∀ b W,Sat w0 (cs++[Uk b 0]) W->K (.map (some b)) W):OpE P n L w ⟨d,.makeMap t none,ty,pos,af,g⟩ K:=by
 refine .val (v:=.map (some w.heap.size)) (w':=w.alloc (.map #[] 0)) (λ ρ j=>?_) (k _ _ (H.add (.alloc _ _) ⟨#[],0,Zu w _,stamped_empty 0,KM _,λ x i=>by cases i⟩ (by simp[Uk])));simp[execOp,Instr.makeMap,go_sem]
def Sat.VU{i b m:Nat}(j:Sat w0 cs w)(d:cs[i]? =some (Uk b m)):∃ l,l<=m/\∃ E k,E.size=l/\w.heap[b]? =some (.map E k):=by
 obtain⟨E,k,H,_,g,_⟩:=j.get d;exact⟨_,g,E,k,Y,H⟩
def Ev.Wb{x:Operand}{t k e:TypeId}{b l:Nat}(u:P.underlying t=some (.map k e))(H:∃ E i,E.size=l/\w.heap[b]? =some (.map E i))(o:aM L x=some (.map (some b))):
  Ev P n L w ⟨d,.call ⟨.builtin .len,#[x],#[t]⟩,ty,pos,af,g⟩ (.int .i64 (l:Int)):=.of λ ρ p=>by
 obtain⟨E,i,j,H⟩:=H;simp[execOp,p o,resolve,invoke,Builtin.len_,Xy u,YV H,go_sem,goInt,j]
def OpE.VL{x y z:Operand}{t k e:TypeId}{i b m:Nat}{s:ByteArray}{v:Value}(hu:P.underlying t=some (.map k e))(r:P.underlying k=some .string)
  (hs:Sat w0 cs w) (hi:cs[i]? =some (Uk b m)) (u:aM L x=some (.map (some b))) (hy:aM L y=some (.string s)) (hz:aM L z=some v)
  (hk:∀ w',Sat w0 (cs.set i (Uk b (m+1))) w'->K undef w'):OpE P n L w ⟨d,.mapUpdate t x y z,ty,pos,af,g⟩ K:=by
 obtain⟨N,l,A,T,hl,o⟩:=hs.get hi;have H:IsKey .string (.string s):=trivial;rcases findNow_spec H N.toList 0 o with⟨W,X⟩|⟨j,e0,W,X,h3⟩
 ·refine .unit (w':={w with heap:=w.heap.setIfInBounds b (.map (N.push {key:=.string s,val:=v,born:=l}) (l+1))}) (λ ρ D=>?_)
   (hk _ (hs.set i hi (mP _ A) ⟨_,_,(ZK A).1,stamped_push T X,by rw[Array.size_push];omega,λ x u=>?_⟩ (λ _ h=>.inl h)))
  ·simp[execOp,D u,D hy,D hz,Instr.mapUpdate,Xy hu,YV A,ZA r H,ZI r W,a0o _ A,Result.andThen]
  ·rw[Array.toList_push,XE,XJ]at u;rcases u with u|rfl
   ·exact o x u
   ·exact H
 ·have hj:N[j]? =some e0:=by simpa using X
  have Q:e0.key= .string s:=h3;have a0:∀ E,N[j]? =some E->({E with key:=.string s,val:=v}:MapEntry).key=E.key:=λ E p=>by rw[hj]at p;cases p;exact Q.symm
  refine .unit (w':={w with heap:=w.heap.setIfInBounds b (.map (N.modify j λ e=>{e with key:=.string s,val:=v}) l)}) (λ ρ D=>?_)
   (hk _ (hs.set i hi (mP _ A) ⟨_,_,(ZK A).1,stamped_modify T j _ (λ _ _=>Y) (λ E _ p=>a0 E p),by rw[Array.size_modify];omega,λ x u=>?_⟩ (λ _ h=>.inl h)))
  ·simp[execOp,D u,D hy,D hz,Instr.mapUpdate,Xy hu,YV A,ZA r H,ZI r W,hj,Q,MapKept.run_keyThatStays H,a0o _ A,Result.andThen]
  ·obtain⟨q,R⟩:=Y9 u;rw[ZS,Z9]at R;by_cases e:j=q
   ·rw[Xp e]at R;obtain⟨y,hy,rfl⟩:=Yz.1 R;exact H
   ·rw[Xn e]at R;exact o x (Array.mem_toList_iff.2 (Array.mem_of_getElem? R))
end
