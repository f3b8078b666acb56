/-
 M42b:texts as lists of bytes;a text cut at a byte;decimal numbers and the texts of manifests. No program in sight.
-/
import Derived.Test.YtcmldpiicnobnaaGreatDoorKg
import Derived.Lib.SplitLaws
import Derived.Lib.AtoiAll
import Derived.Lib.ItoaNum
set_option linter.all false
open Go.Proofs.YtcmldpiicnobnaaGreatDoor
open List
namespace Go.Kw
def bs(l:List UInt8):ByteArray:=⟨l.toArray⟩
theorem fh(l:List UInt8):(bs l).data.toList=l:=rfl
def mN(s:ByteArray):bs s.data.toList=s:=by cases s;simp[bs]
def Ky{a b:List UInt8}(h:bs a=bs b):a=b:=by have:=If (λ s:ByteArray=>s.data.toList) h;exact this
def jz{a b:ByteArray}(h:a.data.toList=b.data.toList):a=b:=by rw[<-mN a,<-mN b,h]
def gx(a b:ByteArray):(a++b).data.toList=a.data.toList++b.data.toList:=by simp[RD]
def Kz(a b:List UInt8):bs a++bs b=bs (a++b):=jz (by rw[gx];rfl)
def dS(l:List UInt8):(bs l).size=l.length:=by simp[bs,ByteArray.size]
def KA(s:ByteArray)(a b:Nat):s.extract a b=bs ((s.data.toList.drop a).take (b-a)):=jz (by rw[Lib.extract_data];rfl)
def k9{c:UInt8}:∀ {l:List UInt8},c∉l->gJ c l=[l]
 |[],_=>rfl
 |a::l,h=>by
  have h1:¬ a=c:=λ e=>h (by rw[e];exact Pu ..);rw[gJ,OB h1,k9 (λ e=>h (Pe _ e))]
def mO{c:UInt8}:∀ {l:List UInt8} (r:List UInt8),c∉l->gJ c (l++c::r)=l::gJ c r
 |[],r,_=>by rw[Q6,gJ,Ow J]
 |a::l,r,h=>by
  have h1:¬ a=c:=λ e=>h (by rw[e];exact Pu ..);rw[PE,gJ,OB h1,mO r (λ e=>h (Pe _ e))]
def wE{c:UInt8}:∀ {s:List UInt8},c∈s->∃ a r,s=a++c::r/\c∉a
 |[],h=>by cases h
 |b::s,h=>by
  by_cases hb:b=c
  ·exact⟨[],s,by rw[hb];rfl,by simp⟩
  ·rcases LD.1 h with h1|h1
   ·exact absurd h1.symm hb
   ·obtain⟨a,r,rfl,ha⟩:=wE h1;exact⟨b::a,r,J,λ h2=>by rcases LD.1 h2 with h3|h3;exact hb h3.symm;exact ha h3⟩
def wF{c:UInt8}:∀ {a:List UInt8},c∉a->Lib.index a [c]= -1
 |[],_=>rfl
 |b::a,h=>by
  have h1:¬ c=b:=λ e=>h (by rw[e];exact Pu ..);have ih:=wF (λ e=>h (Pe _ e):c∉a);unfold Lib.index;rw[ih];simp[List.isPrefixOf,h1]
def sA{c:UInt8}(r:List UInt8):∀ {a:List UInt8},c∉a->Lib.index (a++c::r) [c]=a.length
 |[],_=>by unfold Lib.index;simp[List.isPrefixOf]
 |b::a,h=>by
  have h1:¬ c=b:=λ e=>h (by rw[e];exact Pu ..);have ih:=sA r (λ e=>h (Pe _ e):c∉a);rw[PE];unfold Lib.index;rw[ih];have h2:¬ ((a.length:Int)== -1)=true:=λ e=>by have:=Qd.1 e;omega
  simp[List.isPrefixOf,h1,h2]
def qB{c:UInt8}:∀ (k:Nat) (s:List UInt8),s.count c<=k->Lib.splitK [c] 0 k s=gJ c s
 |0,s,h=>by rw[k9 (λ h9=>by have:=count_pos_iff.2 h9;omega)];rfl
 |k+1,s,h=>by
  unfold Lib.splitK;by_cases hm:c∈s
  ·obtain⟨a,r,rfl,ha⟩:=wE hm;have hn:¬ ((a.length:Int)== -1)=true:=λ e=>by have:=Qd.1 e;omega
   rw[sA r ha,OB hn,mO r ha];have h2:(a++c::r).count c=r.count c+1:=by rw[count_append,count_eq_zero_of_not_mem ha,count_cons_self];omega
   have e1:(a++c::r).take (((a.length:Nat):Int).toNat+0)=a:=by simp
   have e2:(a++c::r).drop (((a.length:Nat):Int).toNat+[c].length)=r:=by
    rw[Qb,drop_append];simp
   rw[e1,e2,qB k r (by omega)]
  ·rw[wF hm,k9 hm];rfl
def bX(c:UInt8)(s:ByteArray):List ByteArray:=(gJ c s.data.toList).map bs
def yg(c:UInt8)(s:ByteArray):Lib.splitB ⟨#[c]⟩ 0 (Lib.countB s ⟨#[c]⟩) s=bX c s:=by
 have h:=Lib.splitB_data ⟨#[c]⟩ 0 (Lib.countB s ⟨#[c]⟩) s;have hc:Lib.countB s ⟨#[c]⟩=s.data.toList.count c:=by
  show Lib.count s.data.toList [c]=_;exact Lib.count_one c _
 rw[hc,show((⟨#[c]⟩:ByteArray).data.toList)=[c]from J,qB _ _ (KP _)]at h;unfold bX;rw[hc,<-h,QU];have e:∀ l:List ByteArray,l.map (bs∘λ x=>x.data.toList)=l:=λ l=>by
  conv=>rhs;rw[<-map_id l]
  exact Qq λ x _=>mN x
 exact(e _).symm
def jA(c:UInt8):∀ l:List UInt8,(gJ c l).length<=l.length+1
 |[]=>by simp[gJ]
 |a::l=>by
  have ih:=jA c l;unfold gJ;split
  ·simp only[KW];omega
  ·split<;>simp_all<;>omega
def wG(c:UInt8):∀ l:List UInt8,1<=(gJ c l).length
 |[]=>by simp[gJ]
 |a::l=>by
  unfold gJ;split
  ·simp
  ·split<;>simp
def gy(c:UInt8)(s:ByteArray):(bX c s).length<=s.size+1:=by
 unfold bX;rw[OC];exact jA c _
def F7(c:UInt8)(s:ByteArray):1<=(bX c s).length:=by
 unfold bX;rw[OC];exact wG c _
def mP(c:UInt8):∀ (l:List UInt8) (x:List UInt8),x∈gJ c l->x.length<=l.length
 |[],x,h=>by simp[gJ]at h;subst h;simp
 |a::l,x,h=>by
  have ih:=mP c l;have hne:=wG c l;unfold gJ at h;split at h
  ·rcases LD.1 h with rfl|h1
   ·simp
   ·have:=ih x h1;simp only[KW];omega
  ·revert h;cases hq:gJ c l with
   |nil=>intro h;simp at h;subst h;simp
   |cons b t=>
    intro h;rcases LD.1 h with rfl|h1
    ·have:=ih b (by rw[hq];exact Pu ..);simp only[KW];omega
    ·have:=ih x (by rw[hq];exact Pe _ h1);simp only[KW];omega
def fi{c:UInt8}{s x:ByteArray}(h:x∈bX c s):x.size<=s.size:=by
 obtain⟨l,hl,rfl⟩:=Ps.1 h;rw[dS];exact mP c _ l hl
def qC{c:UInt8}:∀ ls:List (List UInt8),(∀ l∈ls,c∉l)->gJ c (ls.flatMap λ l=>l++[c])=ls++[[]]
 |[],_=>rfl
 |l::ls,h=>by
  rw[PM,No,Su,mO _ (h l (Pu ..)),qC ls (λ x hx=>h x (Pe _ hx))];rfl
def qD{c:UInt8}:∀ (ws:List (List UInt8)) (w:List UInt8),c∉w->(∀ l∈ws,c∉l)->gJ c (w++ws.flatMap λ l=>c::l)=w::ws
 |[],w,hw,_=>by rw[Rv,PF,k9 hw]
 |v::ws,w,hw,h=>by
  rw[PM,PE,mO _ hw,qD ws v (h v (Pu ..)) (λ x hx=>h x (Pe _ hx))]
def HH(n:Nat):cV n=Lib.decDigits n:=by
 induction n using Nat.strongRecOn with
 |_ n ih=>
  unfold cV Lib.decDigits;split
  ·rfl
  ·rw[ih (n/10) (by omega)]
def F8{z:Int}(h:0<=z):Lib.itoa z=cV z.toNat:=by
 unfold Lib.itoa;rw[OB (by omega),HH]
def ej{k:Nat}:∀ {n:Nat},n<10^(k+1)->(cV n).length<=k+1:=by
 induction k with
 |zero=>intro n h;unfold cV;rw[Ow (by omega)];simp
 |succ k ih=>
  intro n h;unfold cV;split
  ·simp
  ·have:=ih (n:=n/10) (by rw[PG]at h;omega);rw[AT];simp;omega
def lk:∀ (n:Nat) (c:UInt8),c∈cV n->48<=c.toNat/\c.toNat<=57:=by
 intro n;induction n using Nat.strongRecOn with
 |_ n ih=>
  intro c h;have key:∀ d,d<10->(48+d).toUInt8.toNat=48+d:=λ d hd=>by
   show(48+d)%256=48+d;omega
  unfold cV at h;split at h
  ·rename_i h1
   rw[OF.1 h,key n h1];omega
  ·rename_i h1
   rcases OM.1 h with h2|h2
   ·exact ih (n/10) (by omega) c h2
   ·rw[OF.1 h2,key (n%10) (by omega)];omega
def HI(n:Nat):cV n≠[]:=by
 unfold cV;split<;>simp
def aZ(n:Nat):ByteArray:=bs (cV n)
def HJ(l:List UInt8):Nat:=l.foldl (λ n c=>10*n+(c.toNat+208)%256) 0
def KB(s:ByteArray):Nat:=HJ (s.data.toList.take 10)
def wH(n:Nat):HJ (cV n)=n:=by
 induction n using Nat.strongRecOn with
 |_ n ih=>
  have key:∀ d,d<10->((48+d).toUInt8.toNat+208)%256=d:=λ d hd=>by
   show((48+d)%256+208)%256=d;omega
  unfold cV;split
  ·rename_i h1;unfold HJ;rw[Q5,foldl_nil,key n h1];omega
  ·rename_i h1
   have h2:=ih (n/10) (by omega);unfold HJ at h2⊢;rw[Sq,h2,Q5,foldl_nil,key (n%10) (by omega)];omega
def F9{n:Nat}(h:n<=1000000000):KB (aZ n)=n:=by
 unfold KB aZ;rw[fh,OA (ej (k:=9) (by omega)),wH]
def jB(s:ByteArray):Int:=match Lib.atoiAll s.data.toList with
 | .ok v=>v
 |Lib.NumEnd.syntax=>0
 | .range=>Lib.atoiSat s.data.toList
def sB:∀ (l:List UInt8) (acc:Nat),(∀ c∈l,48<=c.toNat/\c.toNat<=57)->(acc+1)*10^l.length<=1000000000000->Lib.parseUint10 acc l= .ok (l.foldl (λ n c=>10*n+(c.toNat+208)%256) acc)
 |[],acc,_,_=>rfl
 |c::l,acc,hd,hb=>by
  have h1:=hd c (Pu ..);have hp:1<=10^l.length:=Nat.one_le_pow _ _ (by omega);rw[KW,PG]at hb;have hacc:(acc+1)*10<=1000000000000:=by
   have:(acc+1)*10*1<=(acc+1)*10*10^l.length:=Q3 _ hp;rw[show(acc+1)*(10^l.length*10)=(acc+1)*10*10^l.length by rw[Ru (10^l.length) 10,Qj]]at hb;omega
  rw[Lib.parseUint10,Ow h1,OB (by omega),OB (by omega)];have e:acc*10+(c.toNat-48)=10*acc+(c.toNat+208)%256:=by omega
  rw[e];refine sB l _ (λ x hx=>hd x (Pe _ hx)) (Pb (PS _ (show 10*acc+(c.toNat+208)%256+1<=(acc+1)*10 by omega)) ?_);rw[Qj,Ru 10];exact hb
def Fa{n:Nat}(h:n<=1000000000):jB (aZ n)=n:=by
 have hl:=ej (k:=9) (n:=n) (by omega);have hm:Lib.parseUint10 0 (cV n)= .ok n:=by
  have:=sB (cV n) 0 (lk n) (by
   have:10^(cV n).length<=10^10:=Pz (by omega) hl;omega)
  rw[this];exact If _ (wH n)
 unfold jB aZ;rw[fh];have ha:Lib.atoiAll (cV n)= .ok (n:Int):=by
  cases hq:cV n with
  |nil=>exact absurd hq (HI n)
  |cons c r=>
   have h1:=lk n c (by rw[hq];exact Pu ..);unfold Lib.atoiAll;have hs:(if c.toNat=43\/c.toNat=45 then r else c::r)=c::r:=OB (by omega);have h45:¬ c.toNat=45:=by omega
   simp only[hs];unfold Lib.parseMag;rw[OB (by simp),<-hq,hm];simp only[h45,Se,RH,false_and,Py];rw[OB (by omega)]
 rw[ha]
def dQ:List UInt8:=[99,111,114,112,111,114,97]
def dR:List UInt8:=[110,101,120,116]
def gz:List UInt8:=[106,111,117,114,110,97,108]
def iS:List UInt8:=[97,116,116,114,105,98,117,116,101]
def gQ:List UInt8:=[112,105,101,99,101]
def setL(b:Bool):List UInt8:=if b then[49]else[48]
def bg(w:List UInt8)(ws:List (List UInt8)):List UInt8:=w++ws.flatMap λ l=>32::l
def nN(nx jr:Int):List (List UInt8):=[bg dQ [[49]],bg dR [cV nx.toNat],bg gz [cV jr.toNat]]
def xg(x:ByteArray×Bool):List UInt8:=bg iS [x.1.data.toList,setL x.2]
def wI(p:Int×List ByteArray):List UInt8:=bg gQ (cV p.1.toNat::p.2.map λ n=>n.data.toList)
def nl(l:List UInt8):List UInt8:=l++[10]
def ru(nx jr:Int):List UInt8:=(nN nx jr).flatMap nl
def jC(al:List (ByteArray×Bool))(nx jr:Int)(ps:List (Int×List ByteArray)):List UInt8:=ru nx jr++al.flatMap (λ x=>nl (xg x))++ps.flatMap (λ p=>nl (wI p))
def gI(p:Pc):Int×List ByteArray:=(p.f,p.ns)
def yh(al:List (ByteArray×Bool))(nx jr:Int)(ps:List (Int×List ByteArray)):jC al nx jr ps=(nN nx jr++al.map xg++ps.map wI).flatMap nl:=by
 unfold jC ru;rw[QC,QC,QW,QW]
def iM{α:Type}{f:α->List UInt8}{b:Nat}:∀ {l:List α},(∀ x∈l,(f x).length<=b)->(l.flatMap f).length<=l.length*b
 |[],_=>by simp
 |a::l,h=>by
  have h1:=h a (Pu ..);have h2:=iM (l:=l) λ x hx=>h x (Pe _ hx);rw[PM,AT,KW,Pp];omega
def fG{α:Type}{f:α->List UInt8}{l:List α}(k:Nat):((l.take k).flatMap f).length<=(l.flatMap f).length:=by
 conv=>rhs;rw[<-P0 k l,QC,AT]
 omega
def iN{s:ByteArray}(h:aU s=true):s.data.toList.length<=32:=by
 unfold aU at h;rw[OK,decide_eq_true_iff]at h;exact h.1
def wJ{s:ByteArray}(h:aU s=true):∀ c∈s.data.toList,yP c.toNat=true:=by
 unfold aU at h;rw[OK]at h;intro c hc;cases hq:s.data.toList with
 |nil=>rw[hq]at hc;cases hc
 |cons d r=>
  rw[hq]at hc h;have h2:=h.2;unfold kn at h2;rw[OK]at h2;rcases LD.1 hc with rfl|h3
  ·exact Is h2.1
  ·exact Pn.1 h2.2 c h3
def zV{s:ByteArray}(h:aU s=true){c:UInt8}(hc:yP c.toNat=false):c∉s.data.toList:=λ hm=>by
 rw[wJ h c hm]at hc;cases hc
def nO{z:Int}(h:z<=1000000000):(cV z.toNat).length<=10:=ej (k:=9) (by omega)
section
variable {al:List (ByteArray×Bool)} {nx jr:Int} {pl:List Pc}
def HK{x:ByteArray×Bool}(h:aU x.1=true):(nl (xg x)).length<=45:=by
 have:=iN h;unfold nl xg bg setL iS;cases x.2<;>simp only[PM,Rv,AT,KW,Oy,Qa,Py,Pm]<;>omega
def HL{l:List ByteArray}(h:∀ n∈l,aU n=true):((l.map λ n=>n.data.toList).flatMap λ x=>(32:UInt8)::x).length<=l.length*33:=by
 rw[QW];exact iM λ n hn=>by have:=iN (h n hn);simp only[KW];omega
def zW{p:Int×List ByteArray}(h1:p.1<=1000000000)(h2:∀ n∈p.2,aU n=true)(h3:p.2.length<=64):(nl (wI p)).length<=2130:=by
 have:=HL h2;have:=nO h1;unfold nl wI bg gQ;simp only[PM,AT,KW,Oy];omega
def wK(h1:nx<=1000000000)(h2:jr<=1000000000):(ru nx jr).length<=45:=by
 have:=nO h1;have:=nO h2;unfold ru nN nl bg dQ dR gz;simp only[PM,Rv,AT,KW,Oy];omega
theorem delOk.names{l:List ByteArray}(h:delOk l):∀ n∈l,aU n=true:=λ n hn=>by
 obtain⟨i,hi⟩:=OV hn;exact(h.1 i n hi).1
theorem stOk.names(h:stOk al nx jr pl):∀ x∈al,aU x.1=true:=λ x hx=>by
 obtain⟨i,hi⟩:=OV hx;exact(h.1.1 i x hi).1
def stOk.Jc(h:stOk al nx jr pl):∀ p∈pl,1<=p.f/\p.f<nx/\delOk p.ns:=λ p hp=>by
 obtain⟨i,hi⟩:=OV hp;obtain⟨h1,h2,_,h4⟩:=h.2.2.2.2.2 i p hi;exact⟨h1,h2,h4⟩
def zX(h:stOk al nx jr pl):(al.flatMap λ x=>nl (xg x)).length<=360:=by
 have h1:=iM (f:=λ x=>nl (xg x)) (b:=45) λ x hx=>HK (h.names x hx);have h2:=h.1.2.2;omega
def zY(h:stOk al nx jr pl):(pl.flatMap λ p=>nl (wI (gI p))).length<=34080:=by
 have h1:=iM (f:=λ p=>nl (wI (gI p))) (b:=2130) (l:=pl) λ p hp=>by
  have h2:=h.Jc p hp;exact zW (by have:=h.2.1;show p.f<=_;omega) h2.2.2.names h2.2.2.2
 have h2:=h.2.2.2.2.1;omega
def Fb(h:stOk al nx jr pl):(jC al nx jr (pl.map gI)).length<=34485:=by
 have h1:=zX h;have h2:=zY h;have h3:=wK h.2.1 (show jr<=1000000000 by have:=h.2.1;have:=h.2.2.2.1;omega);unfold jC;rw[QW];simp only[AT];omega
end
