/-
 Krt:rows taken out of a chunk and put in again,in front of a tail. Our own text;it names no program.
-/
import Derived.Test.YthffkcnbdehceaaGreatKb
import Derived.Test.YthffkcnbdehceaaGreatM16
set_option linter.all false
open Go.Proofs.YthffkcnbdehceaaGreat
open List
namespace Go.Kw
open Go.RowKit
def yH{α:Type}(A cs:List α)(i:Nat)(c:α)(h:i<A.length):(A++cs).set i c=A.set i c++cs:=Up i c h
def Sat.Af{w0 w:World}{A cs L:List Chunk}{α:Type}(h:Sat w0 (A++cs) w)(e:Nat)(E:Enc α)(k:Nat)(hp:rV (A++[aW e E (List.replicate k (⟨none,0,0⟩,[]))])=some L):Sat w0 (L++cs) w:=(h.qR e E k).LU hp
def Sat.Dp{w0 w:World}{A cs L:List Chunk}{α:Type}{e:Nat}{E:Enc α}{ps:List (SV×List α)}{p:SV×List α}{j:Nat}(h:Sat w0 (A++cs) w)(i:Nat)(hi:yw A i=some (aW e E ps))(hb:Nat.blt i A.length=true)(hj:ps[j]? =some p)(hp:rV (A.set i (aW e E (ps.eraseIdx j))++[cL p.1.val e E p.2])=some L):Sat w0 (L++cs) w:=by
 have hl:i<A.length:=by rw[Vn]at hb;exact hb
 have h1:A[i]? =some (aW e E ps):=by
  have:=nB A i _ hi;rw[KP,py hl,Ta]at this;rw[py hl,this]
 have h2:=h.xJ (p:=p) (j:=j) i (by rw[RH hl];exact h1) hj;rw[yH _ _ _ _ hl]at h2;exact h2.LU hp
def Sat.J1{w0 w:World}{A B cs L:List Chunk}{α:Type}{e:Nat}{E:Enc α}{ps:List (SV×List α)}{s:SV}{l:List α}{j:Nat}(h:Sat w0 (A++cs) w)(n i:Nat)(h1:rV (A.take n)=some B)(h2:A.drop n=[cL s.val e E l])(hi:yw B i=some (aW e E (ps.eraseIdx j)))(hb:Nat.blt i B.length=true)(hj:j<ps.length)(hp:rV (B.set i (aW e E (ps.set j (s,l))))=some L):Sat w0 (L++cs) w:=by
 have hl:i<B.length:=by rw[Vn]at hb;exact hb
 have h3:B[i]? =some (aW e E (ps.eraseIdx j)):=by
  have:=nB B i _ hi;rw[KP,py hl,Ta]at this;rw[py hl,this]
 have hA:A=B++[cL s.val e E l]:=by
  rw[gW _ _ h1,<-h2,RY]
 rw[hA]at h;have h4:=Sat.Dq (A:=B++cs) h.vY i (by rw[RH hl];exact h3) hj;rw[yH _ _ _ _ hl]at h4;rw[gW _ _ hp];exact h4
section
variable {P:Program} {n:Nat} {L:aA} {w w0:World} {cs:List Chunk} {K:Value->World->Prop} {d:Option Nat} {ty:TypeId} {pos:String} {af:Array Edge} {g:Option (Nat×Bool)}
def Chg.freeze(w:World)(a:Addr)(k:Nat):Chg [a.block] w (w.freeze a k):=by
 unfold World.freeze;split
 ·exact⟨Y,Y,Y,KD _,λ _ _ _=>Y⟩
 ·refine⟨Y,Y,Y,by simp,λ j hj hn=>?_⟩;have:¬ a.block=j:=λ e=>hn (by simp[e]);simp[Tv,this]
def OpE.Ds{x:Operand}{t e:TypeId}{v:Value}{l:List Nat}(i:Nat)(h2:P.underlying t=some (.slice e))(h3:P.underlying e=some (.int .u8))(hs:Sat w0 cs w)(hi:cs[i]? =some (cL v e (a8 .u8) l))(hx:aJ L x=some v)(hl:0<l.length)
  (hk:∀ w',Sat w0 (cs.set i (Na v (a8 .u8) l)) w'->K v w'):OpE P n L w ⟨d,.convert t t x,ty,pos,af,g⟩ K:=by
 obtain⟨hlen,⟨rfl,hn⟩|⟨b,cap,cur,rfl,hb,hh,hnc,hcap,hcs,ht⟩⟩:=h_holds hs hi
 ·omega
 ·have hsh:w.shape? b=some (e,cur.size):=by unfold World.shape?;rw[hh]
  have hw:=Chg.freeze w ⟨b,cur.size,none⟩ 1;have hh2:(w.freeze ⟨b,cur.size,none⟩ 1).heap[b]? =some (.cells cur e (cur.size,cur.size+1)):=by
   unfold World.freeze;rw[M2 (by decide)];simp[Tv,hh]
  refine .val (v:=.slice (some ⟨b,0,none⟩) l.length cap) (w':=w.freeze ⟨b,cur.size,none⟩ 1) (λ ρ hρ=>?_) (hk _ (hs.set i hi hw ?_ ?_))
  ·simp only[execOp,hρ hx,RA];simp[convert,Rt h2,Rt h3,markStringish,hsh]
  ·refine⟨_,_,Y,hnc,λ j u hu=>⟨b,0,Y,?_⟩⟩;rw[RX,cell_of_heap hh2];rw[<-ht,SG]at hu;split at hu
   ·simpa using hu
   ·cases hu
  ·intro k hk;exact .inl hk
where h_holds {w0 w:World} {cs:List Chunk} {i e:Nat} {v:Value} {l:List Nat} (hs:Sat w0 cs w) (hi:cs[i]? =some (cL v e (a8 .u8) l)):w.ownsRow 0 e 1 v l.length ((a8 .u8).all l):=hs.get hi
end
section
variable {P:Program} {n:Nat} {L:aA} {w w0:World} {cs:List Chunk} {d:Option Nat} {ty:TypeId} {x:Operand}
def Ev.MO{pos:String}{af:Array Edge}{g:Option (Nat×Bool)}{T i b o:Nat}{U:TypeId}{cells vs:List Value}{m:Nat}(hT:dS P T m=true)(hx:aJ L x=some (.pointer (some ⟨b,o,none⟩)))(hs:Sat w0 cs w)(hi:cs[i]? =some (aq b U cells))(hv:(cells.drop o).take m=vs)(hm:vs.length=m):
  Ev P n L w ⟨d,.load T x,ty,pos,af,g⟩ (.agg vs.toArray):=.of λ ρ hρ=>by
 subst hm;have hl:=TO (P:=P) w ⟨b,o,none⟩ vs (λ q u hu=>by
  rw[Sz];refine hs.cell hi ?_;rw[<-hv,SG]at hu;split at hu
  ·rw[SZ]at hu;exact hu
  ·cases hu)
 have hag:(isAgg T).run P w= .ok true w:=by
  unfold dS at hT;cases hun:P.underlying T with
  |none=>simp[hun]at hT
  |some D=>cases D<;>simp[hun]at hT<;>simp[isAgg,Rt hun,go_sem]
 have hsz:(sizeOf T).run P w= .ok vs.length w:=by
  unfold dS at hT;cases hin:P.info? T with
  |none=>simp[hin]at hT
  |some inf=>simp[hin]at hT;simp[sizeOf,typeInfo,hin,hT.2,go_sem]
 have hld:(Instr.loadAt T (ρ x)).run P w= .ok (.agg vs.toArray) w:=by
  simp only[Instr.loadAt,loadVar,hρ hx,Instr.sureAddr,RA,RJ,Rs,hag,hsz,hl,TJ]
 simp only[execOp,RA,hld,Rs,RJ]
end
end Go.Kw
namespace Go.Kw
def Ni:∀ c,c<128->∀ b,b<2->((c+128*b)|||128)=c+128:=by decide+kernel
def Cs:∀ (l:List Nat) (i v x k:Nat),(∀ y∈l,y<256)->i<=9->Ao i v l=(x,k,0)->∃ y rest,l=nO (9-i) y++rest/\x=v+y*2^(7*i)/\k=i+(nO (9-i) y).length/\(0<i->0<y)/\(y<2^(64-7*i))
 |[],i,v,x,k,_,_,h=>by simp[Ao]at h
 |c::r,i,v,x,k,hb,hi,h=>by
  have hc:c<256:=hb c (SI ..);rw[Ao]at h;split at h
  ·simp at h
  ·rename_i h9
   split at h
   ·rename_i h128
    split at h
    ·simp at h
    ·rename_i h0
     simp only[RW,and_true]at h;have hm:c%2^7=c:=RR (by omega);have hf:∀ f,nO f c=[c%2^8]:=λ f=>by unfold nO;cases f<;>simp[h128]
     have h8:c%2^8=c:=RR (by omega);refine⟨c,r,by rw[hf,h8];rfl,by rw[<-h.1,hm],by rw[hf,<-h.2];rfl,λ hp=>by omega,?_⟩;by_cases e:i=9
     ·have:c=1:=SM λ hne=>h9 ⟨e,hne⟩;subst e;subst this;decide
     ·have h2:2^7<=2^(64-7*i):=Sc (by decide) (by omega);omega
   ·rename_i h128
    have hi9:i<9:=by
     rcases RG i 9 with h'|h'
     ·exact h'
     ·exact absurd ⟨by omega,by omega⟩ h9
    obtain⟨y,rest,e1,e2,e3,e4,e5⟩:=Cs r (i+1) _ x k (λ y hy=>hb y (Sl _ hy)) (by omega) h;have hy0:=e4 (by omega);have hcm:c%2^7=c-128:=by omega
    have hbig:¬ (c-128+128*y)<128:=by omega
    have hfu:nO (9-i) (c-128+128*y)=c::nO (9-(i+1)) y:=by
     rw[show 9-i=(9-(i+1))+1 by omega,nO,M2 hbig];have hd:(c-128+128*y)/2^7=y:=by omega
     have hmo:(c-128+128*y)%2^8=(c-128)+128*(y%2):=by omega
     rw[hd,hmo,Ni (c-128) (by omega) (y%2) (by omega),Nat.sub_add_cancel (by omega)]
    refine⟨c-128+128*y,rest,by rw[hfu,e1];rfl,?_,by rw[hfu,e3,LW];omega,λ _=>by omega,?_⟩
    ·rw[e2,hcm,Sp,Ti];congr 2;rw[show 7*(i+1)=7+7*i by omega,Ul,Um 128 y,Ty]
    ·have hp:2^(64-7*i)=2^7*2^(64-7*(i+1)):=by rw[<-Ul];congr 1;omega
     omega
def Kp{l:List Nat}(hb:∀ y∈l,y<256)(h:(gH l).2.2=0):l=uv (gH l).1++l.drop (gH l).2.1/\(gH l).1<2^64:=by
 obtain⟨y,rest,e1,e2,e3,_,e5⟩:=Cs l 0 0 (gH l).1 (gH l).2.1 hb (by decide) (Ug Y (Ug Y h));have hx:(gH l).1=y:=by rw[e2];simp
 have hk:(gH l).2.1=(uv y).length:=by rw[e3,RX];rfl
 refine⟨?_,by rw[hx];exact e5⟩;rw[hx,hk];have e6:l=uv y++rest:=e1
 conv=>lhs;rw[e6]
 rw[e6,VM]
