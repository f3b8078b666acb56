/-
 M41e:the words of values,put in from the end;what a list of numbers and the places come to,word by word. No program in sight.
-/
import Derived.Test.YtcmldpiicnobnaaGreatDoorM39
set_option linter.all false
open Go.Proofs.YtcmldpiicnobnaaGreatDoor
open List
namespace Go.Kw
def Kl(W:List ByteArray)(y:ByteArray):Nat->Bool
 |0=>false
 |j+1=>match W[j]? with
  |some z=>decide (SLt y z)
  |none=>false
def Lu(W:List ByteArray)(y:ByteArray):Nat->Bool
 |0=>true
 |j+1=>match W[j]? with
  |some z=>decide (¬ z=y)
  |none=>true
def tQ{W:List ByteArray}{y z:ByteArray}{j:Nat}(h:0<j)(hz:W[j-1]? =some z):Kl W y j=decide (SLt y z):=by
 cases j with
 |zero=>omega
 |succ j=>rw[Q8]at hz;simp[Kl,hz]
def EO{W:List ByteArray}{y:ByteArray}{j:Nat}(h:¬ 0<j):Kl W y j=false:=by rw[show j=0 by omega];rfl
def tR{W:List ByteArray}{y z:ByteArray}{j:Nat}(h:0<j)(hz:W[j-1]? =some z):Lu W y j=decide (¬ z=y):=by
 cases j with
 |zero=>omega
 |succ j=>rw[Q8]at hz;simp[Lu,hz]
def wu{W:List ByteArray}{y:ByteArray}{j:Nat}(h:¬ 0<j):Lu W y j=true:=by rw[show j=0 by omega];rfl
def EP{W:List ByteArray}{y:ByteArray}{j:Nat}(h:Kl W y j=true):0<j:=by
 cases j with
 |zero=>cases h
 |succ j=>omega
def Hp{W:List ByteArray}{y:ByteArray}{j:Nat}(h:Kl W y j=true)(hg:∀ (i:Nat) z,j<=i->W[i]? =some z->SLt y z):∀ (i:Nat) z,j-1<=i->W[i]? =some z->SLt y z:=λ i z hi hz=>by
 rcases OI i j with h1|h1
 ·have e:i=j-1:=by omega
  subst e;rw[tQ (EP h) hz]at h;exact Pl h
 ·exact hg i z h1 hz
section
variable {vals:List ByteArray} {y:ByteArray} {j:Nat} (hj:j<=(ab vals).length) (hg:∀ (i:Nat) z,j<=i->(ab vals)[i]? =some z->SLt y z) (hf:Kl (ab vals) y j=false)
include hj hg hf
def BO(hn:Lu (ab vals) y j=false):ab (vals++[y])=ab vals:=by
 have h0:0<j:=Decidable.byContradiction λ h=>by rw[wu h]at hn;cases hn
 obtain⟨z,hz⟩:∃ z,(ab vals)[j-1]? =some z:=⟨_,py (by omega)⟩;rw[tR h0 hz]at hn;have e:z=y:=Po.1 (Qy hn);subst e;rw[da,addW,Ow ((eW vals).get (OD hz))]
def BP(hn:Lu (ab vals) y j=true):ab (vals++[y])=(ab vals).take j++y::(ab vals).drop j:=by
 have hlt:∀ (i:Nat) z,i<j->(ab vals)[i]? =some z->SLt z y:=λ i z hi hz=>by
  have h0:0<j:=by omega
  obtain⟨x,hx⟩:∃ x,(ab vals)[j-1]? =some x:=⟨_,py (by omega)⟩;rw[tR h0 hx]at hn;rw[tQ h0 hx]at hf;have h1:SLt x y:=SLt.MX (Qy hf) λ e=>Pl hn e.symm;rcases OI i (j-1)with h2|h2
  ·exact((eW vals).lt hz hx h2).tr h1
  ·rw[show i=j-1 by omega,hx]at hz;cases hz;exact h1
 have hl:ei (ab vals) y=j:=y1 hj hlt λ z hz=>(hg j z (KP _) hz).Ln;have hno:¬ (ab vals)[ei (ab vals) y]? =some y:=λ h=>by rw[hl]at h;exact SLt.C3 y (hg j y (KP _) h)
 rw[da,addW,OB hno,iZ];subst hl;rfl
end
def nM(l:List Nat)(k q m:Nat):List Nat:=if m<q then l.take (k+1)else l.take k
def wx(l:List Nat)(k m:Nat):nM l k 0 m=l.take k:=OB (P9 m)
def tS{l:List Nat}{k q m:Nat}(h:m<q):nM l k q m=l.take (k+1):=Ow h
def Km{l:List Nat}{k q:Nat}(h:l[k]? =some q):nM l k q q++[q]=nM l k (q+1) q:=by
 rw[nM,nM,OB (Nat.lt_irrefl q),Ow (Nat.lt_succ_self q),aB h]
def ER{l:List Nat}{k q m:Nat}(h:q≠m):nM l k (q+1) m=nM l k q m:=by
 unfold nM;by_cases h1:m<q
 ·rw[Ow h1,Ow (by omega)]
 ·rw[OB h1,OB (by omega)]
def oN{us:List ByteArray}{x z:ByteArray}{q k:Nat}(hx:us[k]? =some x)(hz:(ab us)[q]? =some z):x=z↔q=ei (ab us) x:=by
 have h1:=lj (a6 hx);constructor
 ·rintro rfl;exact(eW us).inj hz h1
 ·rintro rfl;rw[hz]at h1;exact(OG h1).symm
def Hq{l:List Nat}{k q m:Nat}(h:l[k]? =some m)(e:q=m):nM l k q m++[q]=nM l k (q+1) m:=by subst e;exact Km h
def Hr{l:List Nat}{S:List (SV×List Nat)}{n k q m:Nat}{p:SV×List Nat}{sv:SV}(h:l[k]? =some m)(e:q=m)(hS:S.map Prod.snd=(List.range n).map (dd (nM l k q m)))(hp:S[q]? =some p):(S.set q (sv,p.2++[k])).map Prod.snd=(List.range n).map (dd (nM l k (q+1) m)):=by
 subst e;rw[tS (Nat.lt_succ_self q)];rw[nM,OB (Nat.lt_irrefl q)]at hS;exact EH h hS hp
def BQ(n:Nat):List.replicate n false=bZ 0 n:=by
 apply Rn
 ·rw[PW,aK]
 ·intro i h1 h2;have h3:=py h2;rw[mw 0 n i (by rw[aK]at h2;exact h2)]at h3;rw[<-OG h3];simp
def BR(l:List Nat)(k:Nat):List Nat:=(List.range k).map λ i=>(cH 0 (l.take i)).length
def oO(l:List Nat)(k:Nat):(BR l k).length=k:=by simp[BR]
def ES(l:List Nat)(k:Nat):BR l k++[(cH 0 (l.take k)).length]=BR l (k+1):=by simp[BR,Si]
def zO{l:List Nat}{k i:Nat}(h:i<k):(BR l k)[i]? =some (cH 0 (l.take i)).length:=by simp[BR,h]
def Ht{l:List Nat}{k x:Nat}(h:l[k]? =some x):cH 0 (l.take k)++kh (x+1-FM l k)=cH 0 (l.take (k+1)):=by rw[aB h,qj];rfl
def Hu(l:List Nat):∀ (i j:Nat),i<=j->(cH 0 (l.take i)).length<=(cH 0 (l.take j)).length:=λ i j h=>by
 have e:l.take j=l.take i++(l.take j).drop i:=by
  conv=>lhs;rw[<-P0 i (l.take j)]
  rw[take_take,Pq h]
 rw[e,tD,AT];omega
def ET{l:List Nat}{q:Nat}(h:16*q<l.length):(mW l l.length).getD q (0,0)=(l.getD (16*q) 0,(cH 0 (l.take (16*q))).length):=by
 have hl:=mA l l.length;obtain⟨x,hx⟩:∃ x,(mW l l.length)[q]? =some x:=⟨_,py (by omega)⟩;rw[LW,hx,QZ];exact(tE l _ _ _ hx).1
def zP{l:List Nat}{q x y:Nat}(h:16*q<l.length)(h1:1<=q)(hx:l[16*q]? =some x)(hy:l[16*q-16]? =some y):
  ug (mW l l.length) q++uv (x-y)++uv ((cH 0 (l.take (16*q))).length-(cH 0 (l.take (16*q-16))).length)=ug (mW l l.length) (q+1):=by
 conv=>rhs;unfold ug
 rw[OB (by omega),ET h,ET (q:=q-1) (by omega),show 16*(q-1)=16*q-16 by omega];rw[LW,LW,hx,hy];rfl
def sd_end{l:List Nat}{q:Nat}(h1:1<=q)(h:l.length<=16*q)(h2:16*q<=l.length+15\/q=1):ug (mW l l.length) q=ug (mW l l.length) (mW l l.length).length:=by
 rw[mA];rcases PB l.length with h0|h0
 ·rw[show q=1 by omega,h0];rfl
 ·rw[show(l.length+15)/16=q by omega]
def Hv:Lib.bitLen 1=1:=by decide
theorem OkP.le{l:List Nat}(h:OkP l){i j y x:Nat}(hy:l[i]? =some y)(hx:l[j]? =some x)(hij:i<j):y<=x:=by
 have h1:=sp.1 hy;have h2:=sp.1 hx;obtain⟨hi,rfl⟩:=h1;obtain⟨hj,rfl⟩:=h2;exact Nat.le_of_lt (PU.1 h.asc i j hi hj hij)
end Go.Kw
namespace Go.Kw
open Go.RowKit Go.MapKept
def Lw(b m:Nat):Chunk where
 foot:=[b]
 holds w:=∃ es clock,w.heap[b]? =some (.map es clock)/\Stamped es clock/\es.size<=m/\∀ x∈es.toList,IsKey .string x.key
 stable w w' h hc:=by obtain⟨es,clock,h1,r⟩:=hc;exact⟨es,clock,by rw[h b (by simp)];exact h1,r⟩
section
variable {P:Program} {n:Nat} {L:aA} {w w0:World} {cs:List Chunk} {K:Value->World->Prop} {d:Option Nat} {ty:TypeId} {pos:String} {af:Array Edge} {g:Option (Nat×Bool)}
def OpE.Le{t:TypeId}(hs:Sat w0 cs w)(hk:∀ b w',Sat w0 (cs++[Lw b 0]) w'->K (.map (some b)) w'):OpE P n L w ⟨d,.makeMap t none,ty,pos,af,g⟩ K:=by
 refine .val (v:=.map (some w.heap.size)) (w':=w.alloc (.map #[] 0)) (λ ρ hρ=>?_) (hk _ _ (hs.add (.alloc _ _) ⟨#[],0,QY w _,stamped_empty 0,KP _,λ x hx=>by cases hx⟩ (by simp[Lw])));simp[execOp,Instr.makeMap,go_sem]
def Sat.MM{i b m:Nat}(hs:Sat w0 cs w)(hi:cs[i]? =some (Lw b m)):∃ l,l<=m/\∃ es clock,es.size=l/\w.heap[b]? =some (.map es clock):=by
 obtain⟨es,clock,hb,_,hl,_⟩:=hs.get hi;exact⟨_,hl,es,clock,J,hb⟩
def Ev.MZ{x:Operand}{t k e:TypeId}{b l:Nat}(hu:P.underlying t=some (.map k e))(hb:∃ es clock,es.size=l/\w.heap[b]? =some (.map es clock))(hx:aH L x=some (.map (some b))):
  Ev P n L w ⟨d,.call ⟨.builtin .len,#[x],#[t]⟩,ty,pos,af,g⟩ (.int .i64 (l:Int)):=.of λ ρ hρ=>by
 obtain⟨es,clock,hl,hb⟩:=hb;simp[execOp,hρ hx,resolve,invoke,Builtin.len_,OH hu,RG hb,go_sem,goInt,hl]
def OpE.MI{x y z:Operand}{t k e:TypeId}{i b m:Nat}{s:ByteArray}{v:Value}(hu:P.underlying t=some (.map k e))(hks:P.underlying k=some .string)
  (hs:Sat w0 cs w) (hi:cs[i]? =some (Lw b m)) (hx:aH L x=some (.map (some b))) (hy:aH L y=some (.string s)) (hz:aH L z=some v)
  (hk:∀ w',Sat w0 (cs.set i (Lw b (m+1))) w'->K undef w'):OpE P n L w ⟨d,.mapUpdate t x y z,ty,pos,af,g⟩ K:=by
 obtain⟨es,clock,hb,hst,hl,hks2⟩:=hs.get hi;have hkey:IsKey .string (.string s):=trivial;rcases findNow_spec hkey es.toList 0 hks2 with⟨h1,h2⟩|⟨j,e0,h1,h2,h3⟩
 ·refine .unit (w':={w with heap:=w.heap.setIfInBounds b (.map (es.push {key:=.string s,val:=v,born:=clock}) (clock+1))}) (λ ρ hρ=>?_)
   (hk _ (hs.set i hi (tH _ hb) ⟨_,_,(RA hb).1,stamped_push hst h2,by rw[Array.size_push];omega,λ x hx=>?_⟩ (λ _ h=>.inl h)))
  ·simp[execOp,hρ hx,hρ hy,hρ hz,Instr.mapUpdate,OH hu,RG hb,MapKept.run_checkKey hks hkey,MapKept.run_findKey hks h1,MapKept.run_setObj_map _ hb,Result.andThen]
  ·rw[Array.toList_push,OM,OF]at hx;rcases hx with hx|rfl
   ·exact hks2 x hx
   ·exact hkey
 ·have hj:es[j]? =some e0:=by simpa using h2
  have hek:e0.key= .string s:=h3;have hkk:∀ e',es[j]? =some e'->({e' with key:=.string s,val:=v}:MapEntry).key=e'.key:=λ e' he'=>by rw[hj]at he';cases he';exact hek.symm
  refine .unit (w':={w with heap:=w.heap.setIfInBounds b (.map (es.modify j λ e=>{e with key:=.string s,val:=v}) clock)}) (λ ρ hρ=>?_)
   (hk _ (hs.set i hi (tH _ hb) ⟨_,_,(RA hb).1,stamped_modify hst j _ (λ _ _=>J) (λ e' _ he'=>hkk e' he'),by rw[Array.size_modify];omega,λ x hx=>?_⟩ (λ _ h=>.inl h)))
  ·simp[execOp,hρ hx,hρ hy,hρ hz,Instr.mapUpdate,OH hu,RG hb,MapKept.run_checkKey hks hkey,MapKept.run_findKey hks h1,hj,hek,MapKept.run_keyThatStays hkey,MapKept.run_setObj_map _ hb,Result.andThen]
  ·obtain⟨q,hq⟩:=OV hx;rw[Array.getElem?_toList,QX]at hq;by_cases e:j=q
   ·rw[Ow e]at hq;obtain⟨y,hy,rfl⟩:=P3.1 hq;exact hkey
   ·rw[OB e]at hq;exact hks2 x (Array.mem_toList_iff.2 (Array.mem_of_getElem? hq))
end
