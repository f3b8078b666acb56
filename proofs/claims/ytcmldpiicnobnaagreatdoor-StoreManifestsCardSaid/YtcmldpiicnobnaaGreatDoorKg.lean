/-
 KG:fields of elements written,units as values,strings put together,for the program logic of Kw. Our own text;it names no program.
-/
import Derived.Test.YtcmldpiicnobnaaGreatDoorM13
import Derived.Laws.Concat
set_option linter.all false
open Go.Proofs.YtcmldpiicnobnaaGreatDoor
open List
namespace Go.Kw
open Go.RowKit
section
variable {α:Type} {E:Enc α} {P:Program} {n:Nat} {L:aA} {w w0:World} {cs:List Chunk} {K:Value->World->Prop} {d:Option Nat} {ty:TypeId} {pos:String} {af:Array Edge} {g:Option (Nat×Bool)}
def D5{l:List α}{j off:Nat}{a a':α}{u:Value}(ha:l[j]? =some a)(he:E.enc a'=(E.enc a).set off u)(ho:off<E.s):(E.all l).set (j*E.s+off) u=E.all (l.set j a'):=by
 have hj:j<l.length:=(sp.1 ha).1;have e1:l=l.take j++a::l.drop (j+1):=by
  have:=(sp.1 ha).2
  conv=>lhs;rw[<-P0 j l,OZ hj,this]
 have e2:l.set j a'=l.take j++a'::l.drop (j+1):=by
  rw[PA];simp[hj]
 have hl:(E.all (l.take j)).length=j*E.s:=by rw[E.all_length];simp;rw[Pq (by omega)]
 rw[e2,E.all_append,E.all_cons,he]
 conv=>lhs;rw[e1,E.all_append,E.all_cons]
 rw[Q2 _ _ (by omega),hl,PH,Sw _ _ (by rw[E.len];exact ho)]
def OpE.fI{x y:Operand}{T e j off:Nat}{v u:Value}{l:List α}{a:α}(i:Nat)(a':α)(hT:(P.info? T).map (·.size)=some 1)(hs:Sat w0 cs w)(hi:cs[i]? =some (cL v e E l))(hx:aH L x=some (br v (j*E.s+off)))
  (hy:aH L y=some u) (h1:u.oneCell'=true) (ha:l[j]? =some a) (he:E.enc a'=(E.enc a).set off u) (ho:off<E.s) (hk:∀ w',Sat w0 (cs.set i (cL v e E (l.set j a'))) w'->Chg (bz v) w w'->K undef w'):OpE P n L w ⟨d,.store T x y,ty,pos,af,g⟩ K:=by
 have hj:j<l.length:=(sp.1 ha).1;have hlt:j*E.s+off<(E.all l).length:=by
  rw[E.all_length];have:(j+1)*E.s<=l.length*E.s:=PS _ hj;rw[Pp,Qw]at this;omega
 refine OpE.Ap hT hs hi hx hy h1 (py hlt) λ w' hS hC=>hk w' ?_ hC;rw[D5 ha he ho]at hS;unfold cL;rw[Oz];exact hS
end
structure RU where
 r:Nat
 at_:Nat
 size:Nat
 ok:Bool
def iR:Enc RU:=⟨4,λ u=>[.int .i32 (u.r:Int),.int .i64 (u.at_:Int),.int .i64 (u.size:Int),.bool u.ok],λ _=>J,λ x v h=>by
 simp only[LD,KY,OE]at h;rcases h with rfl|rfl|rfl|rfl<;>rfl⟩
def jJ(u:Un):RU:=⟨u.r,u.at_,u.size,false⟩
def qT(u:Un):RU:=⟨u.r,u.at_,u.size,u.ok⟩
def fc{α:Type}{l:List α}{k:Nat}{x:α}(h:l[k]? =some x):l.drop k=x::l.drop (k+1):=by
 obtain⟨hk,rfl⟩:=sp.1 h;exact OZ hk
def D6{α:Type}{p:α->Bool}{l:List α}{k:Nat}{x:α}(h:(l.take k).all p=true)(hx:l[k]? =some x)(hp:p x=true):(l.take (k+1)).all p=true:=by
 rw[QF,hx,List.all_append,h];simp[hp]
def uN(s:ByteArray)(a b:Nat):(s.extract a b).data.toList=(s.data.toList.drop a).take (b-a):=by
 have:(s.extract a b).data=s.data.extract a b:=by simp
 rw[this,Array.toList_extract]
def aF(s:ByteArray):List Nat:=s.data.toList.map λ b=>b.toNat
def aj(s:ByteArray):(aF s).length=s.size:=by unfold aF;rw[OC,zl]
def fe(s:ByteArray):∀ x∈aF s,x<256:=λ x hx=>by
 obtain⟨b,_,rfl⟩:=Ps.1 hx;exact b.toNat_lt
def pn{P:Program}{tx:TypeId}{w:World}(hk:P.underlying tx=some .string)(s:ByteArray):Src P 1 tx (.string s) (aF s).length ((ae .u8).all (aF s)) w:=by
 have h:=Src.ofString w hk s;have e:(ae .u8).all (aF s)=byteCells s:=by
  unfold aF byteCells;generalize s.data.toList=l;induction l with
  |nil=>rfl
  |cons b l ih=>rw[P5,P5,Enc.all_cons,ih];rfl
 rw[e,aj];exact h
def jc(l:List UInt8):strOf (l.map λ b=>b.toNat)=⟨l.toArray⟩:=by
 apply nE;simp[strOf,QU,R9]
def td{us:List Un}{k:Nat}{u:Un}(hu:us[k]? =some u):((us.take k).map qT++(us.drop k).map jJ)[k]? =some (jJ u):=by
 have hk:=(sp.1 hu).1;rw[OU (by simp;exact Nat.min_le_left _ _),OC,M2,Pq (by omega),PX,OT,Q0,PZ,hu];rfl
def yN{us:List Un}{k:Nat}{u:Un}(hu:us[k]? =some u){b:Bool}(hb:b=u.ok):
  ((us.take k).map qT++(us.drop k).map jJ).set k ⟨u.r,u.at_,u.size,b⟩=(us.take (k+1)).map qT++(us.drop (k+1)).map jJ:=by
 obtain⟨hk,he⟩:=sp.1 hu;subst hb;have e1:us.take (k+1)=us.take k++[u]:=by rw[QF,hu];rfl
 have e2:us.drop k=u::us.drop (k+1):=by rw[OZ hk,he]
 rw[Q2 _ _ (by simp;exact Nat.min_le_left _ _),OC,M2,Pq (by omega),PX,e2,e1];simp[qT]
def Gl{u:Un}(h:(jJ u).r≠65533):true=u.ok:=by
 have h1:u.r≠65533:=h;simp[Un.ok,h1]
def Gm{u:Un}(h:¬ (jJ u).r≠65533):decide ((jJ u).size=3)=u.ok:=by
 have h1:u.r=65533:=Po.1 h;show decide (u.size=3)=_;by_cases h2:u.size=3<;>simp[Un.ok,h1,h2]
def yO{l:List RU}{done:List Un}{r a:Nat}(hl:l=done.map jJ++[⟨r,a,0,false⟩]):l[l.length-1]? =some ⟨r,a,0,false⟩:=by
 rw[hl];simp
def D7{l:List RU}{done:List Un}{r a:Nat}(z:Nat)(hl:l=done.map jJ++[⟨r,a,0,false⟩]):l.set (l.length-1) ⟨r,a,z,false⟩=(done++[(⟨r,a,z⟩:Un)]).map jJ:=by
 rw[hl,AT,OC,KV,Q8,Q2 _ _ (by simp),OC,PX];simp[jJ]
def Ev.bN{P:Program}{n:Nat}{L:aA}{w:World}{d:Option Nat}{ty:TypeId}{pos:String}{af:Array Edge}{g:Option (Nat×Bool)}{x y:Operand}{t T:TypeId}{a b:ByteArray}
  (hx:aH L x=some (.string a)) (hy:aH L y=some (.string b)) (h:a.size+b.size<=9223372036854775807):Ev P n L w ⟨d,.binOp .add t x y T,ty,pos,af,g⟩ (.string (a++b)):=
 .bin hx hy (by rfl) λ w=>by rw[binOp_string_add];exact run_string_add_sum w a b h
end Go.Kw
namespace Go.Kw
def rK(c:Nat):Bool:=decide (c=95\/(65<=c/\c<=90)\/(97<=c/\c<=122))
def yP(c:Nat):Bool:=decide (rK c=true\/(48<=c/\c<=57)\/c=45)
def Is{c:Nat}(h:rK c=true):yP c=true:=OL (.inl h)
def kn(s:List UInt8):Bool:=match s with
 |[]=>false
 |c::r=>rK c.toNat&&r.all λ c=>yP c.toNat
def aU(s:ByteArray):Bool:=decide (s.size<=32)&&kn s.data.toList
def po{s:ByteArray}(h:32<s.size):aU s=false:=by
 unfold aU;rw[KG (by omega)];rfl
def rL{s:ByteArray}(h:s.size<1):aU s=false:=by
 have h0:s.data.toList=[]:=OW (by show s.data.toList.length=0;have:s.data.toList.length=s.size:=rfl;omega);unfold aU;rw[h0];simp[kn]
def o5{s:List UInt8}{c:UInt8}(h:s[0]? =some c)(hn:rK c.toNat=false):kn s=false:=by
 cases s with
 |nil=>rfl
 |cons d r=>simp at h;subst h;simp[kn,hn]
def rM{s:List UInt8}{i:Nat}{c:UInt8}(h:s[i]? =some c)(hn:yP c.toNat=false):kn s=false:=by
 cases s with
 |nil=>rfl
 |cons d r=>
  cases i with
  |zero=>
   simp at h;subst h;have:rK d.toNat=false:=R7.2 λ h9=>by rw[Is h9]at hn;cases hn
   simp[kn,this]
  |succ i=>
   simp at h;have hm:=OD h;have:(r.all λ c=>yP c.toNat)=false:=R7.2 λ h9=>by rw[Pn.1 h9 c hm]at hn;cases hn
   simp[kn,this]
def pq{s:List UInt8}{c:UInt8}(h:s[0]? =some c)(hf:rK c.toNat=true)(hall:∀ i,∀ d,s[i]? =some d->0<i->yP d.toNat=true):kn s=true:=by
 cases s with
 |nil=>cases h
 |cons d r=>
  simp at h;subst h;have:(r.all λ c=>yP c.toNat)=true:=Pn.2 λ x hx=>by
   obtain⟨i,hi⟩:=OV hx;exact hall (i+1) x (by simpa using hi) (by omega)
  simp[kn,hf,this]
def gJ(by_:UInt8):List UInt8->List (List UInt8)
 |[]=>[[]]
 |c::r=>if c=by_ then[]::gJ by_ r else match gJ by_ r with
  |[]=>[[c]]
  |a::t=>(c::a)::t
def cV(n:Nat):List UInt8:=if n<10 then[(48+n).toUInt8]else cV (n/10)++[(48+n%10).toUInt8]
 termination_by n
 decreasing_by omega
def aE:Enc (ByteArray×Bool):=⟨2,λ x=>[.string x.1,.bool x.2],λ _=>J,λ x u h=>by simp at h;rcases h with rfl|rfl<;>rfl⟩
structure Pc where
 f:Int
 sv:SV
 ns:List ByteArray
def bM:Enc Pc:=⟨2,λ p=>[.int .i64 p.f,p.sv.val],λ _=>J,λ x u h=>by simp at h;rcases h with rfl|rfl<;>rfl⟩
def delOk(l:List ByteArray):Prop:=(∀ (i:Nat) (x:ByteArray),l[i]? =some x->aU x=true/\(0<i->∀ y,l[i-1]? =some y->SLt y x))/\l.length<=64
def xH(l:List (ByteArray×Bool))(i:Nat):Prop:=∀ x,l[i]? =some x->aU x.1=true/\((l.take i).any λ y=>decide (y.1=x.1))=false
def atsOk(l:List (ByteArray×Bool)):Prop:=(∀ i,xH l i)/\1<=l.length/\l.length<=8
def xI(nx jr:Int)(ps:List Pc)(i:Nat):Prop:=∀ p,ps[i]? =some p->1<=p.f/\p.f<nx/\p.f∉jr::(ps.take i).map Pc.f/\delOk p.ns
def stOk(as:List (ByteArray×Bool))(nx jr:Int)(ps:List Pc):Prop:=atsOk as/\nx<=1000000000/\1<=jr/\jr<nx/\ps.length<=16/\∀ i,xI nx jr ps i
noncomputable def delB(l:List ByteArray):Bool:= @decide (delOk l) (Classical.propDecidable _)
noncomputable def atsB(l:List (ByteArray×Bool)):Bool:= @decide (atsOk l) (Classical.propDecidable _)
noncomputable def stB(as:List (ByteArray×Bool))(nx jr:Int)(ps:List Pc):Bool:= @decide (stOk as nx jr ps) (Classical.propDecidable _)
def uO{l:List ByteArray}:delB l=true↔delOk l:=by unfold delB;exact@decide_eq_true_iff _ (Classical.propDecidable _)
def Gn{l:List ByteArray}:delB l=false↔¬ delOk l:=by unfold delB;exact@decide_eq_false_iff_not _ (Classical.propDecidable _)
def lQ{l:List (ByteArray×Bool)}:atsB l=true↔atsOk l:=by unfold atsB;exact@decide_eq_true_iff _ (Classical.propDecidable _)
def Gp{l:List (ByteArray×Bool)}:atsB l=false↔¬ atsOk l:=by unfold atsB;exact@decide_eq_false_iff_not _ (Classical.propDecidable _)
def dE{as:List (ByteArray×Bool)}{nx jr:Int}{ps:List Pc}:stB as nx jr ps=true↔stOk as nx jr ps:=by unfold stB;exact@decide_eq_true_iff _ (Classical.propDecidable _)
def jd{as:List (ByteArray×Bool)}{nx jr:Int}{ps:List Pc}:stB as nx jr ps=false↔¬ stOk as nx jr ps:=by unfold stB;exact@decide_eq_false_iff_not _ (Classical.propDecidable _)
def pr{α:Type}{l:List α}{P:Nat->α->Prop}{k:Nat}(h:∀ i,i<k->∀ x,l[i]? =some x->P i x)(hk:l.length<=k):∀ i x,l[i]? =some x->P i x:=λ i x hx=>h i (by have:=(sp.1 hx).1;omega) x hx
