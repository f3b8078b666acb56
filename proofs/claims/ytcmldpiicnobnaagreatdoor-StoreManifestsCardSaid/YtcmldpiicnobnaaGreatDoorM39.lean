/-
 M39:disks:what the reference's directory operations leave. No program in sight.
-/
import Derived.Test.YtcmldpiicnobnaaGreatDoorKsc
import Derived.Shelf.SlSortCmp.Kit1
import Derived.Sort.EncStr
import Derived.Lib.Bytealg
import Derived.Lib.Strings
import Derived.Shelf.Slices.In.SortNone
set_option linter.all false
open Go.Proofs.YtcmldpiicnobnaaGreatDoor
open List
namespace Go.Kw
def aS:Enc (ByteArray×Int):=⟨2,λ x=>[.string x.1,.int .i64 x.2],λ _=>J,λ x u h=>by simp at h;rcases h with rfl|rfl<;>rfl⟩
structure dz where
 k:Int
 a:ByteArray
 b:ByteArray
 c:ByteArray
def aT:Enc dz:=⟨4,λ x=>[.int .i64 x.k,.string x.a,.string x.b,.string x.c],λ _=>J,λ x u h=>by simp at h;rcases h with rfl|rfl|rfl|rfl<;>rfl⟩
abbrev En:=ByteArray×Int
structure Dk where
 vi:Value
 vd:Value
 vu:Value
 vo:Value
 ino:List En
 dir:List En
 dur:List En
 ops:List dz
@[reducible] def Dk.val(d:Dk):Value:=.agg #[d.vi,d.vd,d.vu,d.vo]
structure RdD(w:World)(d:Dk):Prop where
 i:RdL w d.vi aS d.ino
 e:RdL w d.vd aS d.dir
 u:RdL w d.vu aS d.dur
 o:RdL w d.vo aT d.ops
theorem RdD.ext{w w':World}{d:Dk}(h:RdD w d)(he:Ext w w'):RdD w' d:=⟨h.i.ext he,h.e.ext he,h.u.ext he,h.o.ext he⟩
def Dk.lt(d:Dk)(n:Nat):Prop:=d.ino.length<=n/\d.dir.length<=n/\d.dur.length<=n/\d.ops.length<=n
def Of(e:Int)(s:ByteArray):Prop:=e≠0->s=ByteArray.empty
def FindR(l:List En)(nm:ByteArray)(z:Int):Prop:=(∃ x∈l,x.1=nm/\z=x.2)\/(z= -1/\∀ x∈l,x.1≠nm)
def gw{α:Type}{P:α->Prop}{l:List α}{k:Nat}{x:α}(h:∀ i,i<k->∀ x,l[i]? =some x->P x)(hx:l[k]? =some x)(hp:P x):∀ i,i<k+1->∀ x,l[i]? =some x->P x:=λ i hi z hz=>by
 rcases OI i k with h1|h1
 ·exact h i h1 z hz
 ·have e:i=k:=by omega
  subst e;rw[hx]at hz;cases hz;exact hp
def jZ{α:Type}{P:α->Prop}{l:List α}{k:Nat}(h:∀ i,i<k->∀ x,l[i]? =some x->P x)(hk:¬ k<l.length):∀ x∈l,P x:=λ x hx=>by
 obtain⟨i,hi⟩:=OV hx;exact h i (by have:=(sp.1 hi).1;omega) x hi
def Em{α:Type}{o l:List α}{x:α}{k:Nat}(h:∀ y∈o,y∈l)(hx:l[k]? =some x):∀ y∈o++[x],y∈l:=λ y hy=>by
 rcases OM.1 hy with h1|h1
 ·exact h y h1
 ·rw[OF.1 h1];exact OD hx
def Eo{α:Type}{l:List α}{x:α}{k n:Nat}:∀ y∈((l.take k).drop 0++[x])++(l.take n).drop k,y∈l\/y=x:=λ y hy=>by
 rcases OM.1 hy with h|h
 ·rcases OM.1 h with h|h
  ·exact .inl (OS (P1 h))
  ·exact .inr (OF.1 h)
 ·exact .inl (OS (P1 h))
def IG(l:List En)(o:dz)(c:Int)(l':List En):Prop:=((o.k=1/\FindR l o.a (-1))\/o.k=4\/o.k=5)/\∀ x∈l',x∈l\/(o.k=1/\x=(o.a,c))\/(o.k=4/\x.1=o.b)
structure dirOk(l:List En)(n:Int):Prop where
 rg:∀ x∈l,0<=x.2/\x.2<n
 one:∀ (i j:Nat) x y,l[i]? =some x->l[j]? =some y->j<i->y.2≠x.2
def Kb:EqE aS [.s,.i .i64]:=⟨λ a=>J,λ a b=>by
 obtain⟨a1,a2⟩:=a;obtain⟨b1,b2⟩:=b;by_cases h1:a1=b1<;>by_cases h2:a2=b2<;>simp[aS,eqVs,LU,h1,h2]⟩
def zu(l:List En)(n:Int)(x:En)(i:Nat):Prop:=0<=x.2/\x.2<n/\∀ j,j<i->∀ y,l[j]? =some y->y.2≠x.2
def Ep{l:List En}{n:Int}{k:Nat}(h:∀ i,i<k->∀ x,l[i]? =some x->zu l n x i)(hk:¬ k<l.length):dirOk l n:=by
 have hi:∀ (i:Nat) x,l[i]? =some x->zu l n x i:=λ i x hx=>h i (by have:=(sp.1 hx).1;omega) x hx;exact⟨λ x hx=>by obtain⟨i,hx⟩:=OV hx;exact⟨(hi i x hx).1,(hi i x hx).2.1⟩,λ i j x y hx hy hj=>(hi i x hx).2.2 j hj y hy⟩
def Er{l:List En}{n:Int}{x:En}{k j:Nat}(h1:0<=x.2/\x.2<n)(h:∀ i,i<j->∀ y,((l.take k).drop 0)[i]? =some y->y.2≠x.2)(hj:¬ j<((l.take k).drop 0).length)(hk:k<l.length):zu l n x k:=by
 refine⟨h1.1,h1.2,λ i hi y hy=>h i ?_ y ?_⟩
 ·simp only[PK,M2]at hj;omega
 ·rw[PK,Pg,Ow hi];exact hy
def He(d:Dk)(at_:List Int)(oi:List En)(i:Nat)(x:En):Prop:=(∃ y∈d.dir,y.2=(i:Int))->∃ p:Nat,at_[i]? =some (p:Int)/\oi[p]? =some x
def zv{d:Dk}{A:List Int}{oi oi':List En}{k:Nat}{x:En}{z:Int}(hA:A.length=d.ino.length)(h:∀ i,i<k->∀ x,d.ino[i]? =some x->He d A oi i x)(hx:d.ino[k]? =some x)(hz:∀ y∈d.dir,y.2=(k:Int)->z=(oi.length:Int))(ho:(oi'=oi++[x]/\z=(oi.length:Int))\/(oi'=oi/\z= -1)):
  ∀ i,i<k+1->∀ x,d.ino[i]? =some x->He d (A.set k z) oi' i x:=λ i hi q hq hy=>by
 have hk:=(sp.1 hx).1;rcases OI i k with h1|h1
 ·obtain⟨p,hp,hpo⟩:=h i h1 q hq hy;refine⟨p,by rw[Q7 (by omega)];exact hp,?_⟩;rcases ho with⟨rfl,_⟩|⟨rfl,_⟩
  ·rw[OO (sp.1 hpo).1];exact hpo
  ·exact hpo
 ·have e:i=k:=by omega
  subst e;rw[hx]at hq;cases hq;obtain⟨y,hy1,hy2⟩:=hy;have hz:=hz y hy1 hy2;rcases ho with⟨rfl,_⟩|⟨_,h3⟩
  ·exact⟨oi.length,by rw[P4 (by omega),hz],by simp⟩
  ·omega
def Hf(d:Dk)(oi:List En)(q:En):Prop:=∃ y∈d.dir,q.1=y.1/\∃ i,d.ino[y.2.toNat]? =some i/\oi[q.2.toNat]? =some i
def BI{d:Dk}{oi dl:List En}{y i:En}{p:Nat}{n:Nat}(h:∀ q∈dl,Hf d oi q)(hy:d.dir[n]? =some y)(hi:d.ino[y.2.toNat]? =some i)(hp:oi[p]? =some i):∀ q∈dl++[(y.1,(p:Int))],Hf d oi q:=λ q hq=>by
 rcases OM.1 hq with h1|h1
 ·exact h q h1
 ·rw[OF.1 h1];exact⟨y,OD hy,J,i,hi,by simpa using hp⟩
def Ma(d x:Dk):Prop:=x.ino.length<=d.ino.length/\x.dir.length<=d.dir.length/\x.dur.length<=d.dir.length/\x.ops=[]/\∀ q∈x.dir,Hf d x.ino q
def Dk.nil:Dk:=⟨.slice none 0 0,.slice none 0 0,.slice none 0 0,.slice none 0 0,[],[],[],[]⟩
theorem Dk.cd(w:World):RdD w Dk.nil:=⟨RdL.nil _ _,RdL.nil _ _,RdL.nil _ _,RdL.nil _ _⟩
def Dk.gD(n:Nat):Dk.nil.lt n:=⟨IN _,IN _,IN _,IN _⟩
theorem FindR.bd{l:List En}{nm:ByteArray}{z n:Int}(h:FindR l nm z)(hl:dirOk l n)(hz:z≠-1):0<=z/\z<n:=by
 rcases h with⟨x,hx,_,rfl⟩|⟨h,_⟩
 ·exact hl.rg x hx
 ·exact absurd h hz
def Mb(d:Dk)(o:dz)(x:Dk):Prop:=dirOk d.dir d.ino.length/\
 (((o.k=2\/o.k=3)/\x.dir=d.dir/\∃ (z:Int) (q:En) (t:Int),FindR d.dir o.a z/\0<=z/\d.ino[z.toNat]? =some q/\x.ino=d.ino.set z.toNat (q.1++o.c,t))\/(o.k=6/\Ma d x)\/
  (IG d.dir o d.ino.length x.dir/\x.ino=if o.k=1 then d.ino++[(ByteArray.empty,0)]else d.ino))
theorem Dk.lt.mono{d:Dk}{a b:Nat}(h:d.lt a)(hab:a<=b):d.lt b:=⟨Pb h.1 hab,Pb h.2.1 hab,Pb h.2.2.1 hab,Pb h.2.2.2 hab⟩
def runR:List dz->Dk->Dk->Prop
 |[],d,x=>x=d
 |o::r,d,x=>∃ y,Mb d o y/\runR r y x
theorem runR.snoc:∀ {l:List dz} {d x y:Dk} {o:dz},runR l d x->Mb x o y->runR (l++[o]) d y
 |[],d,x,y,o,h,h2=>⟨y,by rw[runR]at h;rw[<-h];exact h2,J⟩
 |a::r,d,x,y,o,⟨z,h1,h3⟩,h2=>⟨z,h1,runR.snoc h3 h2⟩
theorem runR.next{os:List dz}{d x y:Dk}{o:dz}{k:Nat}(h:runR (os.take k) d x)(ho:os[k]? =some o)(h2:Mb x o y):runR (os.take (k+1)) d y:=by
 rw[QF,ho];exact h.snoc h2
section
variable {P:Program} {n:Nat} {L:aA} {w:World} {d:Option Nat} {ty:TypeId} {pos:String} {af:Array Edge} {g:Option (Nat×Bool)}
def Ev.FI{x:Operand}{v:Value}{c m:Nat}(hx:aH L x=some (br v c))(h:LQ v m)(hm:0<m):Ev P n L w ⟨d,.nilCheck x,ty,pos,af,g⟩ (br v c):=by
 obtain⟨a,cap,rfl,ha⟩:=h;obtain⟨bb,o,rfl⟩:=ha hm;have e1:br (.slice (some ⟨bb,o,none⟩) m cap) c= .pointer (some ⟨bb,o+c,none⟩):=by simp only[br,Ph]
 rw[e1]at hx⊢;exact Ev.nilCheck hx
end
theorem cc(a:Array UInt8):(ByteArray.mk a).size=a.size:=rfl
def gH(l:List UInt8):List Nat:=l.map λ b=>b.toNat
def Es(l:List UInt8):∀ x∈gH l,x<256:=fe (bs l)
def k5(l:List UInt8):(gH l).length=l.length:=by unfold gH;simp
def nH(l:List UInt8):strOf (gH l)=bs l:=jc l
def qx(al:List (ByteArray×Bool))(nx jr:Int)(ps:List (Int×List ByteArray)):ByteArray:=strOf (aq (gH (jC al nx jr ps)))
section
variable {al:List (ByteArray×Bool)} {nx jr:Int} {pl:List Pc} {k:Nat}
def qR(al:List (ByteArray×Bool))(nx jr:Int)(k:Nat):List UInt8:=ru nx jr++(al.take k).flatMap λ x=>nl (xg x)
def qS(al:List (ByteArray×Bool))(nx jr:Int)(pl:List Pc)(k:Nat):List UInt8:=ru nx jr++al.flatMap (λ x=>nl (xg x))++(pl.take k).flatMap λ p=>nl (wI (gI p))
def y8(f:Int)(ns:List ByteArray)(j:Nat):List UInt8:=gQ++32::cV f.toNat++(ns.take j).flatMap λ n=>32::n.data.toList
def vY:qR al nx jr 0=ru nx jr:=by unfold qR;simp
def vZ{α:Type}{l:List α}{k:Nat}{x:α}(h:l[k]? =some x):l.take (k+1)=l.take k++[x]:=by rw[QF,h];rfl
def wa{x:ByteArray×Bool}(h:al[k]? =some x):qR al nx jr (k+1)=qR al nx jr k++nl (xg x):=by
 unfold qR;rw[vZ h,QC,<-No];simp
def wb(h:al.length<=k):qR al nx jr k=qS al nx jr pl 0:=by unfold qS qR;rw[OA h];simp
def wc{p:Pc}(h:pl[k]? =some p):qS al nx jr pl (k+1)=qS al nx jr pl k++nl (wI (gI p)):=by
 unfold qS;rw[vZ h,QC,<-No];simp
def zw(h:pl.length<=k):qS al nx jr pl k=jC al nx jr (pl.map gI):=by unfold qS jC;rw[OA h,QW]
def Et{f:Int}{ns:List ByteArray}:y8 f ns 0=gQ++32::cV f.toNat:=by unfold y8;simp
def Eu{f:Int}{ns:List ByteArray}{n:ByteArray}(h:ns[k]? =some n):y8 f ns (k+1)=y8 f ns k++(32::n.data.toList):=by
 unfold y8;rw[vZ h,QC,<-No];simp
def zy{p:Pc}(h:p.ns.length<=k):y8 p.f p.ns k=wI (gI p):=by
 unfold y8 wI bg gI;rw[OA h,PM,QW];simp
def qy(h:stOk al nx jr pl):(ru nx jr++al.flatMap λ x=>nl (xg x)).length<=405:=by
 have h1:=zX h;have h3:=wK h.2.1 (show jr<=1000000000 by have:=h.2.1;have:=h.2.2.2.1;omega);rw[AT];omega
def zz(h:stOk al nx jr pl):(qR al nx jr k).length<=405:=by
 have h1:=qy h;have h2:=fG (f:=λ x=>nl (xg x)) (l:=al) k;unfold qR;rw[AT]at h1⊢;omega
def k6(h:stOk al nx jr pl):(qS al nx jr pl k).length<=34485:=by
 have h1:=qy h;have h4:=zY h;have h2:=fG (f:=λ p=>nl (wI (gI p))) (l:=pl) k;unfold qS;rw[AT];omega
def zB{p:Pc}(h1:p.f<=1000000000)(h2:delOk p.ns):(y8 p.f p.ns k).length<=2130:=by
 have h3:=zW (p:=gI p) h1 h2.names h2.2;have h4:=fG (f:=λ n:ByteArray=>32::n.data.toList) (l:=p.ns) k;have h5:(y8 p.f p.ns p.ns.length).length=(wI (gI p)).length:=by rw[zy (KP _)]
 unfold y8 at h5⊢;unfold nl at h3;rw[OA (KP _)]at h5;rw[AT]at h3 h5⊢;omega
def Hg:bs [99,111,114,112,111,114,97,32,49,10,110,101,120,116,32]++aZ nx.toNat++bs [10,106,111,117,114,110,97,108,32]++aZ jr.toNat++bs [10]=bs (qR al nx jr 0):=jz (by
 rw[vY];unfold ru nN aZ;simp only[gx,fh,PM,Rv,nl,bg,dQ,dR,gz,PF,No,PE,Q6])
def Ew{out:ByteArray}{x:ByteArray×Bool}{b:Bool}(ho:out=bs (qR al nx jr k))(hx:al[k]? =some x)(hb:x.2=b){q:ByteArray}(hq:q=bs (32::setL b++[10])):out++(bs [97,116,116,114,105,98,117,116,101,32]++x.1)++q=bs (qR al nx jr (k+1)):=jz (by
 subst ho hq;rw[wa hx];simp only[gx,fh,nl,xg,bg,iS,PM,Rv,PF,No,PE,Q6,hb])
def Hh{out:ByteArray}{f:Int}{ns:List ByteArray}{l:List UInt8}(ho:out=bs l):out++(bs [112,105,101,99,101,32]++aZ f.toNat)=bs (l++y8 f ns 0):=jz (by
 subst ho;rw[Et];unfold aZ;simp only[gx,fh,gQ,No,PE,Q6])
def Kc{out:ByteArray}{f:Int}{ns:List ByteArray}{l:List UInt8}{n:ByteArray}(ho:out=bs (l++y8 f ns k))(hn:ns[k]? =some n):out++(bs [32]++n)=bs (l++y8 f ns (k+1)):=jz (by
 subst ho;rw[Eu hn];simp only[gx,fh,No,PE,Q6])
def Kd{out:ByteArray}{p:Pc}{j:Nat}(ho:out=bs (qS al nx jr pl k++y8 p.f p.ns j))(hp:pl[k]? =some p)(hj:p.ns.length<=j):out++bs [10]=bs (qS al nx jr pl (k+1)):=jz (by
 subst ho;rw[wc hp,zy hj];simp only[gx,fh,nl,No])
def Mc:nl (bg dQ [[49]])++nl (bg dR [cV nx.toNat])++nl (bg (ByteArray.mk #[106,111,117,114,110,97,108]).data.toList ([aZ jr.toNat].map λ n=>n.data.toList))=qR al nx jr 0:=by
 rw[vY];unfold ru nN;simp only[PM,Rv,PF,No];rfl
def Md{x:ByteArray×Bool}{b:ByteArray}(hx:al[k]? =some x)(hb:b=bs (setL x.2)):qR al nx jr k++nl (bg (ByteArray.mk #[97,116,116,114,105,98,117,116,101]).data.toList ([x.1,b].map λ n=>n.data.toList))=qR al nx jr (k+1):=by
 subst hb;rw[wa hx];rfl
def Me{p:Pc}(hp:pl[k]? =some p):qS al nx jr pl k++nl (bg (ByteArray.mk #[112,105,101,99,101]).data.toList ((aZ p.f.toNat::p.ns).map λ n=>n.data.toList))=qS al nx jr pl (k+1):=by
 rw[wc hp];rfl
end
structure Rc where
 k:Nat
 p:ByteArray
def mH:Enc Rc:=⟨2,λ x=>[.int .i64 (x.k:Int),.string x.p],λ _=>J,λ x u h=>by simp at h;rcases h with rfl|rfl<;>rfl⟩
def we{k:Nat}{p:ByteArray}:∀ x∈[k%2^8]++aF p,x<256:=λ x hx=>by
 rcases OM.1 hx with h|h
 ·rw[OF.1 h];exact R4 _ (by decide)
 ·exact fe p x h
def newF(nm data:ByteArray)(b:Bool):List dz:=(if b then[⟨5,nm,ByteArray.empty,ByteArray.empty⟩]else[])++[⟨1,nm,ByteArray.empty,ByteArray.empty⟩]++(if data=ByteArray.mk #[]then[]else[⟨2,nm,ByteArray.empty,data⟩])++[⟨3,nm,ByteArray.empty,ByteArray.empty⟩]
structure Lv where
 sa:SV
 st:SV
 sx:SV
 sr:SV
 sn:SV
 sh:SV
 sl:SV
 at_:List (ByteArray×Bool)
 tk:List Tk
 tx:List Iv
 rg:List Iv
 nd:List Nd
 hd:List Int
 rl:List ByteArray
 pc:Int
@[reducible] def Lv.co(x:Lv):Co:=⟨x.sa.val,x.st.val,x.sx.val,x.sr.val,x.sn.val,x.sh.val,x.sl.val,x.at_,x.tk,x.tx,x.rg,x.nd,x.hd,x.rl⟩
def aY:Enc Lv:=⟨8,λ x=>[x.sa.val,x.st.val,x.sx.val,x.sr.val,x.sn.val,x.sh.val,x.sl.val,.int .i64 x.pc],λ _=>J,λ x u h=>by simp at h;rcases h with rfl|rfl|rfl|rfl|rfl|rfl|rfl|rfl<;>rfl⟩
def Lv.nm(x:Lv):ByteArray:=match x.tx with
 |t::_=>t.nm
 |[]=>ByteArray.empty
def Lv.sK{x:Lv}{t:Iv}(h:x.tx[0]? =some t):x.nm=t.nm:=by
 unfold Lv.nm;cases hx:x.tx with
 |nil=>rw[hx]at h;cases h
 |cons a r=>rw[hx]at h;cases h;rfl
def RdLv(w:World)(l:List Lv):Prop:=∀ x∈l,RdC w x.co
theorem RdLv.ext{w w':World}{l:List Lv}(h:RdLv w l)(he:Ext w w'):RdLv w' l:=λ x hx=>(h x hx).ext he
structure Sr where
 av:Value
 pv:Value
 rv:Value
 al:List (ByteArray×Bool)
 nx:Int
 jr:Int
 pl:List Pc
 rs:List Rc
@[reducible] def Sr.val(u:Sr):Value:=.agg #[u.av,.int .i64 u.nx,.int .i64 u.jr,u.pv,u.rv]
structure RdSr(w:World)(u:Sr):Prop where
 a:RdL w u.av aE u.al
 p:RdL w u.pv bM u.pl
 r:RdL w u.rv mH u.rs
 d:∀ x∈u.pl,RdL w x.sv.val ah x.ns
theorem RdSr.ext{w w':World}{u:Sr}(h:RdSr w u)(he:Ext w w'):RdSr w' u:=⟨h.a.ext he,h.p.ext he,h.r.ext he,λ x hx=>(h.d x hx).ext he⟩
def Sr.nil:Sr:=⟨.slice none 0 0,.slice none 0 0,.slice none 0 0,[],0,0,[],[]⟩
theorem Sr.cd(w:World):RdSr w Sr.nil:=⟨RdL.nil _ _,RdL.nil _ _,RdL.nil _ _,λ x h=>(by cases h)⟩
structure MoreR(u:Sr)(x:Rc)(y:Sr):Prop where
 al:y.al=u.al
 nx:y.nx=u.nx
 jr:y.jr=u.jr
 pl:y.pl=u.pl
 rs:y.rs=u.rs++[x]
structure NoTx(al:List (ByteArray×Bool))(x:Co):Prop where
 at_:x.at_=al
 tk:x.tk=[]
 tx:x.tx=[]
 rg:x.rg=[]
 nd:x.nd=[]
 hd:x.hd=[]
 rl:x.rl=[]
inductive JoinR(al:List (ByteArray×Bool)):List Lv->Co->Prop
 |nil {x:Co} (h:NoTx al x):JoinR al [] x
 |snoc {l:List Lv} {d:Lv} {a x:Co} (h:JoinR al l a) (hc:IsCat a d.co x):JoinR al (l++[d]) x
theorem NoTx.ok{al:List (ByteArray×Bool)}{x:Co}(h:NoTx al x)(ha:atsOk al):OkC 0 x where
 at_:=h.at_▸ha
 voc t ht:=by rw[h.tk]at ht;cases ht
 tk t ht:=by rw[h.tk]at ht;cases ht
 tx:=by
  rw[h.tk,h.tx];exact⟨λ x hx=>(by cases hx),λ i j x y hx=>(by simp at hx),λ x hx=>(by simp at hx),λ i x y hx=>(by simp at hx),λ i x hx=>(by simp at hx),⟨λ _=>J,λ _=>J⟩⟩
 rg:=by
  rw[h.tx,h.rg];exact⟨λ x hx=>(by cases hx),λ i x y hx=>(by simp at hx),λ x hx=>(by cases hx)⟩
 nd:=by
  rw[h.tx,h.nd];exact⟨λ x hx=>(by cases hx),λ i x hx=>(by simp at hx),λ s i x y hx=>(by simp at hx)⟩
 hd:=.inl ⟨h.hd,h.rl⟩
 ntk:=by rw[h.tk];exact IN _
 ntx:=by rw[h.tx];exact IN _
 nrg:=by rw[h.rg];exact IN _
 nnd:=by rw[h.nd];exact IN _
structure LvsOk(al:List (ByteArray×Bool))(l:List Lv):Prop where
 ok:∀ x∈l,OkC 1 x.co/\x.at_=al
 nm:∀ (i j:Nat) x y,l[i]? =some x->l[j]? =some y->j<i->∀ s∈x.tx,∀ t∈y.tx,t.nm≠s.nm
theorem JoinR.names{al:List (ByteArray×Bool)}{l:List Lv}{x:Co}(h:JoinR al l x):x.at_=al/\∀ y∈x.tx,∃ (j:Nat) (d:Lv),l[j]? =some d/\∃ t∈d.tx,t.nm=y.nm:=by
 induction h with
 |nil h=>exact⟨h.at_,λ y hy=>by rw[h.tx]at hy;cases hy⟩
 | @snoc l d a x h hc ih=>
  refine⟨hc.at_.trans ih.1,λ y hy=>?_⟩;rw[hc.tx]at hy;rcases eu hy with h1|⟨z,hz,rfl⟩
  ·obtain⟨j,e,he,t,ht,hn⟩:=ih.2 y h1;exact⟨j,e,by rw[OO (sp.1 he).1];exact he,t,ht,hn⟩
  ·exact⟨l.length,d,by simp,z,hz,J⟩
theorem JoinR.ok{al:List (ByteArray×Bool)}{l:List Lv}{x:Co}(h:JoinR al l x)(ha:atsOk al):LvsOk al l->OkC l.length x:=by
 induction h with
 |nil h=>exact λ _=>h.ok ha
 | @snoc l d a x h hc ih=>
  intro hl;have hl':LvsOk al l:=⟨λ x hx=>hl.ok x (PO _ hx),λ i j x y hx hy hj=>hl.nm i j x y (by rw[OO (sp.1 hx).1];exact hx) (by rw[OO (sp.1 hy).1];exact hy) hj⟩;have hd:=hl.ok d (Qo _ (OF.2 J));have:=OkC.cat (ih hl') hd.1 (h.names.1.trans hd.2.symm) (λ s hs y hy=>by
   obtain⟨j,e,he,t,ht,hn⟩:=h.names.2 y hy;rw[<-hn];have hj:=(sp.1 he).1;exact hl.nm l.length j d e (by simp) (by rw[OO hj];exact he) hj s hs t ht) hc
  rw[AT,KV];exact this
theorem LvsOk.take{al:List (ByteArray×Bool)}{l:List Lv}(h:LvsOk al l)(k:Nat):LvsOk al (l.take k):=
 ⟨λ x hx=>h.ok x (OS hx),λ i j x y hx hy hj=>h.nm i j x y (by rw[Pg]at hx;split at hx;exact hx;cases hx) (by rw[Pg]at hy;split at hy;exact hy;cases hy) hj⟩
def JoinR.apart{al:List (ByteArray×Bool)}{l:List Lv}{a:Co}{k:Nat}{d:Lv}(h:JoinR al (l.take k) a)(hl:LvsOk al l)(hd:l[k]? =some d):∀ s∈d.tx,∀ y∈a.tx,y.nm≠s.nm:=λ s hs y hy=>by
 obtain⟨j,e,he,t,ht,hn⟩:=h.names.2 y hy;rw[<-hn];rw[Pg]at he;split at he
 ·exact hl.nm k j d e hd he (by omega) s hs t ht
 ·cases he
theorem JoinR.next{al:List (ByteArray×Bool)}{l:List Lv}{a x:Co}{k:Nat}{d:Lv}(h:JoinR al (l.take k) a)(hd:l[k]? =some d)(hc:IsCat a d.co x):JoinR al (l.take (k+1)) x:=by
 rw[QF,hd];exact .snoc h hc
def v4{x y:Iv}(h:x.v=y.v):x.nm=y.nm/\x.b=y.b/\x.e=y.e/\x.ps=y.ps:=
 ⟨If (λ q:rq=>q.1) h,If (λ q:rq=>q.2.1) h,If (λ q:rq=>q.2.2.1) h,If (λ q:rq=>q.2.2.2) h⟩
def mI{l m:List Iv}(h:l.map Iv.v=m.map Iv.v){i:Nat}{x:Iv}(hx:m[i]? =some x):∃ y,l[i]? =some y/\y.v=x.v:=by
 have e:=If (·[i]?) h;simp only[OT,hx,PY]at e;cases hy:l[i]? with
 |none=>rw[hy]at e;cases e
 |some y=>rw[hy]at e;exact⟨y,J,OG e⟩
def oq{l m:List Iv}(h:l.map Iv.v=m.map Iv.v){x:Iv}(hx:x∈m):∃ y,y∈l/\y.v=x.v:=by
 obtain⟨i,hi⟩:=OV hx;obtain⟨y,hy,e⟩:=mI h hi;exact⟨y,OD hy,e⟩
def zC{l m:List Iv}(h:l.map Iv.v=m.map Iv.v):l.length=m.length:=by simpa using If List.length h
def Ke{x y p q:Iv}(h:x.v=p.v)(k:y.v=q.v):fq x y=fq p q:=by
 obtain⟨h1,h2,h3,h4⟩:=v4 h;obtain⟨k1,k2,k3,k4⟩:=v4 k;unfold fq;rw[h1,h2,h3,h4,k1,k2,k3,k4]
def IH{l m:List Iv}(h:l.map Iv.v=m.map Iv.v){b e:Int}(hi:inT l b e):inT m b e:=by
 obtain⟨t,ht,h1⟩:=hi;obtain⟨y,hy,e1⟩:=oq h.symm ht;obtain⟨_,e2,e3,_⟩:=v4 e1;exact⟨y,hy,by rw[e2,e3];exact h1⟩
def Kf{n:Int}{l m:List Iv}(h:l.map Iv.v=m.map Iv.v)(k:okTx n l):okTx n m where
 nm x hx:=by
  obtain⟨y,hy,e⟩:=oq h hx;obtain⟨e1,e2,e3,e4⟩:=v4 e;have:=k.nm y hy;rwa[e1,e2,e3,e4]at this
 nd i j x y hx hy hij:=by
  obtain⟨x',hx',ex⟩:=mI h hx;obtain⟨y',hy',ey⟩:=mI h hy;rw[<-(v4 ex).1,<-(v4 ey).1];exact k.nd i j x' y' hx' hy' hij
 first x hx:=by
  obtain⟨x',hx',ex⟩:=mI h hx;rw[<-(v4 ex).2.1];exact k.first x' hx'
 next i x y hx hy:=by
  obtain⟨x',hx',ex⟩:=mI h hx;obtain⟨y',hy',ey⟩:=mI h hy;rw[<-(v4 ex).2.2.1,<-(v4 ey).2.1];exact k.next i x' y' hx' hy'
 last i x hx hi:=by
  obtain⟨x',hx',ex⟩:=mI h hx;rw[<-(v4 ex).2.2.1];exact k.last i x' hx' (by rw[zC h];exact hi)
 none_:=by
  rw[<-k.none_,<-length_eq_zero_iff,<-length_eq_zero_iff,zC h]
def Mf{x y p q:Iv}(h:x.v=p.v)(k:y.v=q.v)(hn:noX x y):noX p q:=by
 obtain⟨h1,h2,h3,_⟩:=v4 h;obtain⟨k1,k2,k3,_⟩:=v4 k;unfold noX at hn⊢;rw[h1,h2,h3,k1,k2,k3]at hn;exact hn
theorem OkC.qM{k:Nat}{c d:Co}(h:OkC k c)(e:c.v=d.v):OkC k d:=by
 have eA:c.at_=d.at_:=If oM.at_ e;have eT:c.tk.map (·.ns)=d.tk.map (·.ns):=If oM.tk e;have eX:c.tx.map Iv.v=d.tx.map Iv.v:=If oM.tx e;have eR:c.rg.map Iv.v=d.rg.map Iv.v:=If oM.rg e;have eN:c.nd=d.nd:=If oM.nd e;have eH:c.hd=d.hd:=If oM.hd e;have eL:c.rl=d.rl:=If oM.rl e;have eTl:c.tk.length=d.tk.length:=by simpa using If List.length eT
 refine⟨eA▸h.at_,λ t ht=>?_,λ t ht=>?_,eTl▸Kf eX h.tx,⟨λ x hx=>?_,λ i x y hx hy=>?_,λ x hx y hy=>?_⟩,⟨λ x hx=>?_,eN▸h.nd.par,eN▸h.nd.sib⟩,?_,by rw[<-eTl];exact h.ntk,by rw[<-zC eX];exact h.ntx,by rw[<-zC eR];exact h.nrg,by rw[<-eN];exact h.nnd⟩
 ·have hm:t.ns∈c.tk.map (·.ns):=by rw[eT];exact Pj ht
  obtain⟨u,hu,e1⟩:=Ps.1 hm;exact e1▸h.voc u hu
 ·have hm:t.ns∈c.tk.map (·.ns):=by rw[eT];exact Pj ht
  obtain⟨u,hu,e1⟩:=Ps.1 hm;have:=h.tk u hu;rw[e1]at this;rw[<-eA];exact this
 ·obtain⟨y,hy,e1⟩:=oq eR hx;obtain⟨a1,a2,a3,a4⟩:=v4 e1;obtain⟨b1,b2,b3⟩:=h.rg.el y hy;rw[a1]at b1;rw[a4]at b3;rw[a2,a3]at b2;exact⟨b1,IH eX b2,b3⟩
 ·obtain⟨x',hx',ex⟩:=mI eR hx;obtain⟨y',hy',ey⟩:=mI eR hy;rw[<-Ke ex ey];exact h.rg.asc i x' y' hx' hy'
 ·obtain⟨x',hx',ex⟩:=oq eR hx;obtain⟨y',hy',ey⟩:=oq eR hy;exact Mf ex ey (h.rg.nox x' hx' y' hy')
 ·have:=h.nd.el x (by rw[eN];exact hx);exact⟨this.1,IH eX this.2⟩
 ·rcases h.hd with⟨a,b⟩|a
  ·exact .inl ⟨eH▸a,eL▸b⟩
  ·refine .inr ⟨by rw[<-eTl,<-eH,<-eL];exact a.len,eH▸eL▸a.bare,λ i x hx=>?_,eL▸a.nm,eH▸a.rk⟩;rcases a.el i x (by rw[eH];exact hx)with q|⟨t,ht,q⟩
   ·exact .inl q
   ·obtain⟨y,hy,e1⟩:=oq eX.symm ht;obtain⟨_,a2,a3,_⟩:=v4 e1;exact .inr ⟨y,hy,by rw[a2,a3];exact q⟩
def dm{α:Type}(l:List α)(b e:Int):List α:=(l.take e.toNat).drop b.toNat
def ly(b e:Int):List Iv->List Iv
 |[]=>[]
 |x::r=>if b<=x.b/\x.e<=e then{x with b:=x.b-b,e:=x.e-b}::ly b e r else ly b e r
def jx(f:Int)(i:Nat):Int:=if f<0 then(i:Int)else f
def nI(b e:Int):Int->Nat->List Nd->List Nd
 |_,_,[]=>[]
 |f,i,x::r=>if x.b<b\/e<x.e then nI b e f (i+1) r else{x with b:=x.b-b,e:=x.e-b,p:=if 0<=x.p then x.p-jx f i else x.p}::nI b e (jx f i) (i+1) r
def so(h:List Int)(r:List ByteArray):Bool:=decide ((∀ x∈h,x= -1)/\∀ s∈r,s=ByteArray.empty)
def eB(c:Co)(t:Iv):Bool:=decide (c.hd=[])||so (dm c.hd t.b t.e) (dm c.rl t.b t.e)
def nJ(c:Co)(t:Iv):Co:=⟨c.va,c.vt,c.vx,c.vr,c.vn,c.vh,c.vl,c.at_,dm c.tk t.b t.e,[{t with b:=0,e:=t.e-t.b}],ly t.b t.e c.rg,nI t.b t.e (-1) 0 c.nd,
 cond (eB c t) [] ((dm c.hd t.b t.e).map λ h=>max (h-t.b) (-1)),cond (eB c t) [] (dm c.rl t.b t.e)⟩
def Ex{b e:Int}:∀ {l m:List Iv},l.map Iv.v=m.map Iv.v->(ly b e l).map Iv.v=(ly b e m).map Iv.v
 |[],[],_=>rfl
 |[],_::_,h=>by simp at h
 |_::_,[],h=>by simp at h
 |x::l,y::m,h=>by
  rw[P5,P5,Sj]at h;obtain⟨h1,h2,h3,h4⟩:=v4 h.1;unfold ly;rw[h2,h3];split
  ·rw[P5,P5,Ex h.2];unfold Iv.v;simp only[h1,h2,h3,h4]
  ·exact Ex h.2
def Kg{c d:Co}{t s:Iv}(h:c.v=d.v)(ht:t.v=s.v):(nJ c t).v=(nJ d s).v:=by
 have eA:c.at_=d.at_:=If oM.at_ h;have eT:c.tk.map (·.ns)=d.tk.map (·.ns):=If oM.tk h;have eR:c.rg.map Iv.v=d.rg.map Iv.v:=If oM.rg h;have eN:c.nd=d.nd:=If oM.nd h;have eH:c.hd=d.hd:=If oM.hd h;have eL:c.rl=d.rl:=If oM.rl h;obtain⟨h1,h2,h3,h4⟩:=v4 ht;have e1:=Ex (b:=s.b) (e:=s.e) eR;have e2:(dm c.tk s.b s.e).map (·.ns)=(dm d.tk s.b s.e).map (·.ns):=by unfold dm;rw[map_drop,Qt,map_drop,Qt,eT]
 have e3:Iv.v {t with b:=0,e:=s.e-s.b}=Iv.v {s with b:=0,e:=s.e-s.b}:=by unfold Iv.v;simp only[h1,h4]
 unfold nJ eB Co.v;simp only[eA,eN,eH,eL,h2,h3,e1,e2,P5,QS,e3]
def tK{b e:Int}:∀ (l r:List Iv),ly b e (l++r)=ly b e l++ly b e r
 |[],r=>rfl
 |x::l,r=>by rw[PE,ly,ly,tK l r];split<;>rfl
def y9{b e:Int}:∀ {l:List Iv},(∀ x∈l,¬ (b<=x.b/\x.e<=e))->ly b e l=[]
 |[],_=>rfl
 |x::l,h=>by rw[ly,OB (h x (by simp)),y9 λ y hy=>h y (by simp[hy])]
def zD{n e:Int}:∀ {l:List Iv},(∀ x∈l,0<=x.b/\x.e+n<=e)->ly n e (l.map (dA n))=l
 |[],_=>rfl
 |x::l,h=>by
  have h1:=h x (by simp);rw[P5,ly,Ow (by unfold dA;simp only;omega),zD λ y hy=>h y (by simp[hy])];congr 1;unfold dA;obtain⟨a,b,c,d,f⟩:=x;simp only[Iv.mk.injEq,RH,Sg];omega
def Ey{b e:Int}:∀ {l:List Nd} {f:Int} {i:Nat},(∀ x∈l,x.b<b\/e<x.e)->nI b e f i l=[]
 |[],_,_,_=>rfl
 |x::l,f,i,h=>by rw[nI,Ow (h x (by simp)),Ey λ y hy=>h y (by simp[hy])]
def Ez{b e:Int}:∀ {l r:List Nd} {f:Int} {i:Nat},(∀ x∈r,x.b<b\/e<x.e)->nI b e f i (l++r)=nI b e f i l
 |[],r,f,i,h=>Ey h
 |x::l,r,f,i,h=>by
  rw[PE,nI,nI];split
  ·exact Ez h
  ·rw[Ez h]
def II{b e:Int}:∀ {l r:List Nd} {f:Int} {i:Nat},(∀ x∈l,x.b<b\/e<x.e)->nI b e f i (l++r)=nI b e f (i+l.length) r
 |[],r,f,i,h=>rfl
 |x::l,r,f,i,h=>by
  rw[PE,nI,Ow (h x (by simp)),II λ y hy=>h y (by simp[hy]),KW];congr 1;omega
def zE{n e:Int}{m:Nat}:∀ {l:List Nd} {f:Int} {i:Nat},(∀ x∈l,0<=x.b/\x.e+n<=e)->jx f i=(m:Int)->nI n e f i (l.map (qZ n m))=l
 |[],_,_,_,_=>rfl
 |x::l,f,i,h,hf=>by
  have h1:=h x (by simp);rw[P5,nI,OB (by unfold qZ;simp only;omega),hf,zE (λ y hy=>h y (by simp[hy])) (by unfold jx;rw[OB (by omega)])];congr 1;obtain⟨a,b,c,p⟩:=x;unfold qZ;simp only[Nd.mk.injEq,RH];refine⟨by omega,by omega,?_⟩;split
  ·rw[Ow (by omega)];omega
  ·rfl
def wg{α:Type}{l r:List α}{b e:Int}(h:e<=l.length):dm (l++r) b e=dm l b e:=by
 unfold dm;rw[Qu (by omega)]
def EA{α:Type}{l r:List α}{n m:Nat}(h:l.length=n)(hr:r.length=m):dm (l++r) (n:Int) ((n:Int)+(m:Int))=r:=by
 unfold dm;have e1:((n:Int)+(m:Int)).toNat=n+m:=by omega
 rw[e1,Qb,OA (by rw[AT];omega),<-h,drop_left]
def zF{α:Type}{l:List α}{b e:Int}{x:α}(h:x∈dm l b e):x∈l:=OS (P1 h)
def inT.Ja{l:List Iv}{n b e:Int}(h:inT l b e)(hl:okTx n l):0<=b/\b<e/\e<=n:=by
 obtain⟨t,ht,h1,h2,h3⟩:=h;have:=hl.nm t ht;omega
def EB{k:Nat}{c:Co}(h:OkC k c)(e:c.hd=[]):c.rl=[]:=by
 rcases h.hd with h|h
 ·exact h.2
 ·have h1:=h.len;rw[e]at h1;exact OW (by simp at h1;omega)
def yb{j k:Nat}{a b c:Co}(ha:OkC j a)(hb:OkC k b)(hc:IsCat a b c){t:Iv}(ht:t∈a.tx):(nJ c t).v=(nJ a t).v:=by
 have h1:=ha.tx.nm t ht;have hr:∀ x∈b.rg.map (dA a.tk.length),¬ (t.b<=x.b/\x.e<=t.e):=λ x hx=>by
  obtain⟨y,hy,rfl⟩:=Ps.1 hx;have:=(hb.rg.el y hy).2.1.Ja hb.tx;unfold dA;simp only;omega
 have hn:∀ x∈b.nd.map (qZ a.tk.length a.nd.length),x.b<t.b\/t.e<x.e:=λ x hx=>by
  obtain⟨y,hy,rfl⟩:=Ps.1 hx;have:=(hb.nd.el y hy).2.Ja hb.tx;unfold qZ;simp only;omega
 have hh:eB c t=eB a t/\(eB a t=false->dm c.hd t.b t.e=dm a.hd t.b t.e/\dm c.rl t.b t.e=dm a.rl t.b t.e):=by
  by_cases e0:a.hd=[]
  ·have e1:eB a t=true:=by unfold eB;rw[e0];rfl
   refine⟨?_,λ h=>by rw[e1]at h;cases h⟩;rw[e1];unfold eB;rcases hc.hd with⟨_,q1,q2⟩|⟨_,q1,_⟩
   ·have e2:eE a=List.replicate a.tk.length (-1):=by unfold eE;rw[e0,OB (by simp)]
    have e3:fD a=List.replicate a.tk.length ByteArray.empty:=by unfold fD;rw[e0,OB (by simp)]
    have e4:so (dm c.hd t.b t.e) (dm c.rl t.b t.e)=true:=by
     rw[q1,q2,wg (by rw[e2,PW];omega),wg (by rw[e3,PW];omega),e2,e3];exact OL ⟨λ x hx=>PR (zF hx),λ x hx=>PR (zF hx)⟩
    rw[e4,Bool.or_true]
   ·rw[q1];rfl
  ·have hp:0<a.hd.length:=Rf.2 e0;have hl:a.hd.length=a.tk.length/\a.rl.length=a.tk.length:=by
    rcases ha.hd with h|h
    ·exact absurd h.1 e0
    ·exact h.len
   rcases hc.hd with⟨_,q1,q2⟩|⟨q,_⟩
   ·have e2:dm c.hd t.b t.e=dm a.hd t.b t.e:=by rw[q1];unfold eE;rw[Ow hp,wg (by omega)]
    have e3:dm c.rl t.b t.e=dm a.rl t.b t.e:=by rw[q2];unfold fD;rw[Ow hp,wg (by omega)]
    have e4:c.hd≠[]:=by rw[q1];unfold eE;rw[Ow hp];intro h;exact e0 (Sp.1 h).1
    exact⟨by unfold eB;rw[e2,e3,KG e4,KG e0],λ _=>⟨e2,e3⟩⟩
   ·omega
 have e5:dm c.tk t.b t.e=dm a.tk t.b t.e:=by rw[hc.tk,wg (by omega)]
 have e6:ly t.b t.e c.rg=ly t.b t.e a.rg:=by rw[hc.rg,tK,y9 hr,PF]
 have e7:nI t.b t.e (-1) 0 c.nd=nI t.b t.e (-1) 0 a.nd:=by rw[hc.nd,Ez hn]
 have e8:cond (eB c t) [] ((dm c.hd t.b t.e).map λ h=>max (h-t.b) (-1))=cond (eB a t) [] ((dm a.hd t.b t.e).map λ h=>max (h-t.b) (-1)):=by
  rw[hh.1];cases h9:eB a t with
  |true=>rfl
  |false=>rw[R3,R3,(hh.2 h9).1]
 have e9:cond (eB c t) [] (dm c.rl t.b t.e)=cond (eB a t) [] (dm a.rl t.b t.e):=by
  rw[hh.1];cases h9:eB a t with
  |true=>rfl
  |false=>rw[R3,R3,(hh.2 h9).2]
 show Co.v ⟨_,_,_,_,_,_,_,_,_,_,_,_,_,_⟩=Co.v ⟨_,_,_,_,_,_,_,_,_,_,_,_,_,_⟩;unfold Co.v;simp only[hc.at_,e5,e6,e7,e8,e9]
def BJ{j:Nat}{a b c:Co}(ha:OkC j a)(hb:OkC 1 b)(hc:IsCat a b c)(hat:a.at_=b.at_){s:Iv}(hs:b.tx=[s]):(nJ c (dA a.tk.length s)).v=b.v:=by
 have h0:s.b=0:=hb.tx.first s (by rw[hs];rfl);have h1:s.e=b.tk.length:=hb.tx.last 0 s (by rw[hs];rfl) (by rw[hs];rfl);have eb:(dA a.tk.length s).b=(a.tk.length:Int):=by unfold dA;simp only;omega
 have ee:(dA a.tk.length s).e=(a.tk.length:Int)+(b.tk.length:Int):=by unfold dA;simp only;omega
 have hal:=ha.hw.len;have hbl:=hb.hw.len;have e5:dm c.tk (dA a.tk.length s).b (dA a.tk.length s).e=b.tk:=by rw[hc.tk,eb,ee];exact EA J J
 have e6:ly (dA a.tk.length s).b (dA a.tk.length s).e c.rg=b.rg:=by
  rw[hc.rg,eb,ee,tK,y9 (λ x hx=>by have:=(ha.rg.el x hx).2.1.Ja ha.tx;omega),Q6];exact zD λ x hx=>by have:=(hb.rg.el x hx).2.1.Ja hb.tx;omega
 have e7:nI (dA a.tk.length s).b (dA a.tk.length s).e (-1) 0 c.nd=b.nd:=by
  rw[hc.nd,eb,ee,II (λ x hx=>by have:=(ha.nd.el x hx).2.Ja ha.tx;omega)];exact zE (λ x hx=>by have:=(hb.nd.el x hx).2.Ja hb.tx;omega) (by unfold jx;rw[Ow (by omega)];simp)
 have hx:∀ h∈b.hd,h= -1\/0<=h:=λ h hh=>by
  rcases hb.hd with q|q
  ·rw[q.1]at hh;cases hh
  ·obtain⟨i,hi⟩:=OV hh;rcases q.el i h hi with e|⟨t,ht,_,_,e,_⟩
   ·exact .inl e
   ·have:=hb.tx.nm t ht;exact .inr (by omega)
 have hh:(eB c (dA a.tk.length s)=true/\b.hd=[]/\b.rl=[])\/(eB c (dA a.tk.length s)=false/\dm c.hd (dA a.tk.length s).b (dA a.tk.length s).e=b.hd.map (o6 a.tk.length)/\dm c.rl (dA a.tk.length s).b (dA a.tk.length s).e=b.rl):=by
  rcases hc.hd with⟨q0,q1,q2⟩|⟨q,q1,_⟩
  ·have c1:dm c.hd (dA a.tk.length s).b (dA a.tk.length s).e=(eE b).map (o6 a.tk.length):=by rw[q1,eb,ee];exact EA hal.1 (by rw[OC];exact hbl.1)
   have c2:dm c.rl (dA a.tk.length s).b (dA a.tk.length s).e=fD b:=by rw[q2,eb,ee];exact EA hal.2 hbl.2
   by_cases e0:b.hd=[]
   ·refine .inl ⟨?_,e0,EB hb e0⟩;unfold eB;rw[c1,c2];have:so ((eE b).map (o6 a.tk.length)) (fD b)=true:=by
     unfold eE fD;rw[e0,OB (by simp),OB (by simp)];refine OL ⟨λ x hx=>?_,λ x hx=>PR hx⟩;obtain⟨y,hy,rfl⟩:=Ps.1 hx;rw[PR hy];rfl
    rw[this,Bool.or_true]
   ·have hp:0<b.hd.length:=Rf.2 e0;have d1:eE b=b.hd:=by unfold eE;rw[Ow hp]
    have d2:fD b=b.rl:=by unfold fD;rw[Ow hp]
    refine .inr ⟨?_,by rw[c1,d1],by rw[c2,d2]⟩;have d3:c.hd≠[]:=by
     rw[q1,d1];intro h;exact e0 (map_eq_nil_iff.1 (Sp.1 h).2)
    unfold eB;rw[c1,c2,d1,d2,KG d3,Bool.false_or];refine KG λ q=>?_;rcases hb.hd with r|r
    ·exact e0 r.1
    ·obtain⟨i,⟨h,hi,hne⟩|⟨u,hu,hne⟩⟩:=r.bare
     ·have:=q.1 _ (Pj (f:=o6 a.tk.length) (OD hi));rcases hx h (OD hi)with e|e
      ·exact hne e
      ·unfold o6 at this;rw[Ow e]at this;omega
     ·exact hne (q.2 u (OD hu))
  ·have e0:b.hd=[]:=OW (by omega);exact .inl ⟨by unfold eB;rw[q1];rfl,e0,EB hb e0⟩
 have e8:cond (eB c (dA a.tk.length s)) [] ((dm c.hd (dA a.tk.length s).b (dA a.tk.length s).e).map λ h=>max (h-(dA a.tk.length s).b) (-1))=b.hd:=by
  rcases hh with⟨r1,r2,_⟩|⟨r1,r2,_⟩
  ·rw[r1,r2];rfl
  ·rw[r1,r2,R3,eb,QU]
   conv=>rhs;rw[<-map_id b.hd]
   refine Qq λ h hm=>?_;show max (o6 a.tk.length h-(a.tk.length:Int)) (-1)=h;unfold o6;rcases hx h hm with e|e
   ·rw[OB (by omega)];omega
   ·rw[Ow e];omega
 have e9:cond (eB c (dA a.tk.length s)) [] (dm c.rl (dA a.tk.length s).b (dA a.tk.length s).e)=b.rl:=by
  rcases hh with⟨r1,_,r2⟩|⟨r1,_,r2⟩
  ·rw[r1,r2];rfl
  ·rw[r1,r2];rfl
 have ea:({(dA a.tk.length s)with b:=0,e:=(dA a.tk.length s).e-(dA a.tk.length s).b}:Iv)=s:=by
  obtain⟨x1,x2,x3,x4,x5⟩:=s;simp only at h0 h1;unfold dA;simp only[Iv.mk.injEq,RH,Sg];omega
 show Co.v ⟨_,_,_,_,_,_,_,_,_,_,_,_,_,_⟩=Co.v b;unfold Co.v;simp only[hc.at_,hat,e5,e6,e7,e8,e9,ea,hs]
def tL{α:Type}{l:List α}{k:Nat}{x:α}(h:l[k]? =some x):l.drop k=x::l.drop (k+1):=by
 obtain⟨hk,he⟩:=sp.1 h;rw[OZ hk,he]
def EC{R T l:List Iv}{b e:Int}{k:Nat}{x:Iv}(h:T++ly b e (l.drop k)=R)(hx:l[k]? =some x)(hs:¬ (b<=x.b/\x.e<=e)):T++ly b e (l.drop (k+1))=R:=by
 rw[tL hx,ly,OB hs]at h;exact h
def ED{R T l:List Iv}{b e:Int}{k:Nat}{x:Iv}(h:T++ly b e (l.drop k)=R)(hx:l[k]? =some x)(hs:b<=x.b/\x.e<=e):(T++[{x with b:=x.b-b,e:=x.e-b}])++ly b e (l.drop (k+1))=R:=by
 rw[tL hx,ly,Ow hs]at h;rw[No];exact h
def Hi{R T l:List Iv}{b e:Int}{k:Nat}(h:T++ly b e (l.drop k)=R)(hk:¬ k<l.length):T=R:=by
 rw[P8 (by omega),ly,PF]at h;exact h
def oI{b e:Int}{x:Iv}:∀ {l:List Iv},x∈ly b e l->∃ y∈l,x.sv=y.sv/\x.ps=y.ps
 |[],h=>by cases h
 |y::l,h=>by
  rw[ly]at h;split at h
  ·rcases LD.1 h with rfl|h
   ·exact⟨y,by simp,J,J⟩
   ·obtain⟨z,hz,h⟩:=oI h;exact⟨z,by simp[hz],h⟩
  ·obtain⟨z,hz,h⟩:=oI h;exact⟨z,by simp[hz],h⟩
def EE{R T l:List Nd}{b e z:Int}{k:Nat}{x:Nd}(h:T++nI b e z k (l.drop k)=R)(hx:l[k]? =some x)(hs:x.b<b\/e<x.e):T++nI b e z (k+1) (l.drop (k+1))=R:=by
 rw[tL hx,nI,Ow hs]at h;exact h
def wh{R T l:List Nd}{b e z:Int}{k:Nat}{x:Nd}{p:Int}(h:T++nI b e z k (l.drop k)=R)(hx:l[k]? =some x)(hs:¬ (x.b<b\/e<x.e))(hp:p=if 0<=x.p then x.p-jx z k else x.p):(T++[⟨x.nm,x.b-b,x.e-b,p⟩])++nI b e (jx z k) (k+1) (l.drop (k+1))=R:=by
 rw[tL hx,nI,OB hs]at h;rw[No,hp];exact h
def Hj{R T l:List Nd}{b e z:Int}{k:Nat}(h:T++nI b e z k (l.drop k)=R)(hk:¬ k<l.length):T=R:=by
 rw[P8 (by omega),nI,PF]at h;exact h
def Hk{z:Int}{k:Nat}(h: -1<=z/\z<=k): -1<=jx z k/\jx z k<=((k+1:Nat):Int):=by unfold jx;split<;>omega
def wi{α:Type}{l:List α}{b k:Nat}{x:α}(hx:l[k]? =some x)(hb:b<=k):(l.take (k+1)).drop b=(l.take k).drop b++[x]:=by
 have hk:=(sp.1 hx).1;rw[QF,hx,drop_append_of_le_length (by rw[M2];omega)];rfl
def EF{h:List Int}{r:List ByteArray}{k:Nat}{x:Int}{s:ByteArray}(hx:h[k]? =some x)(hs:r[k]? =some s)(hn:x≠-1\/s≠ByteArray.empty):so h r=false:=KG λ q=>hn.elim (λ f=>f (q.1 x (OD hx))) λ f=>f (q.2 s (OD hs))
def BK{h:List Int}{r:List ByteArray}{k:Nat}(hl:h.length=r.length)(ha:∀ i,i<k->∀ x,h[i]? =some x->x= -1)(hb:∀ i,i<k->∀ x,r[i]? =some x->x=ByteArray.empty)(hk:¬ k<h.length):so h r=true:=OL ⟨jZ ha hk,jZ hb (by omega)⟩
def Og(l s:List Nat):Prop:=(∃ t,s=l++t)\/∃ t,l=s++t
section
variable {S α:Type} {ok:S->Bool} {f:S->α×S}
end
theorem iz(a:ByteArray):strOf (aF a)=a:=by
 apply vL;unfold aF strOf;simp only[QU,toList_toArray];rw[show(λ b:UInt8=>b.toNat)∘(λ n=>UInt8.ofNat n)∘(λ b:UInt8=>b.toNat)=λ b=>b.toNat from by
  funext b;show(UInt8.ofNat b.toNat).toNat=b.toNat;rw[UInt8.ofNat_toNat]]
end Go.Kw
namespace Go.Kw
open Go.RowKit Go.Sort Go.Proofs Go.Shelf
section
variable {α:Type} [Inhabited α] {enc:α->Value} {w w0:World} {cs:List Chunk}
end
def iL{α:Type}{l:List α}{k:Nat}{x d:α}(h:l[k]? =some x):l.getD k d=x:=by simp[LW,h]
def j2:List ByteArray->Nat
 |[]=>0
 |v::r=>if 120<v.size then 2 else if gj v=false then 7 else j2 r
def fE(vs:List ByteArray):Nat:=if 4096<vs.length then 2 else if j2 vs≠0 then j2 vs else if 1024<(ab vs).length then 2 else 0
def Hl{vs:List ByteArray}(h:j2 vs=0):∀ v∈vs,v.size<=120/\gj v=true:=by
 induction vs with
 |nil=>simp
 |cons v r ih=>
  unfold j2 at h;split at h
  ·cases h
  ·rename_i h1
   split at h
   ·cases h
   ·rename_i h2
    intro u hu;rcases LD.1 hu with rfl|hu
    ·exact⟨by omega,by simpa using h2⟩
    ·exact ih h u hu
end Go.Kw
namespace Go.Kw
def eZ{l:List Nat}(h:∀ x∈l,x<256):aF (strOf l)=l:=by
 unfold aF strOf;simp only[QU,toList_toArray];rw[Qq (g:=id) (λ x hx=>by
  show(UInt8.ofNat x).toNat=x;rw[UInt8.toNat_ofNat'];exact P6 (h x hx)),map_id]
def nK{l:List Nat}(h:∀ x∈l,x<256):dK (strOf l)=df l:=by
 unfold dK df;rw[eZ h,aI]
def oJ{α:Type}{f:α->List Nat}{l:List α}{k:Nat}{x:α}(hx:l[k]? =some x):(l.take (k+1)).flatMap f=(l.take k).flatMap f++f x:=by rw[aB hx,QC];simp
def qz{α:Type}{f:α->List Nat}{B:Nat}:∀ (l:List α),(∀ x∈l,(f x).length<=B)->(l.flatMap f).length<=B*l.length
 |[],_=>by simp
 |x::l,h=>by
  have h1:=h x (by simp);have h2:=qz l λ y hy=>h y (by simp[hy]);rw[PM,AT,KW,Nat.mul_succ];omega
def zG{f:Nat->List Nat}(k:Nat):(List.range (k+1)).flatMap f=(List.range k).flatMap f++f k:=by rw[Si,QC];simp
def cU(s:ByteArray):(dK s).length<=s.size+10:=by unfold dK;have:=aN s.size;rw[AT,aj];omega
def zH{ps:List Pr}(h:okPs ps){k:Nat}{p:Pr}(hp:ps[k]? =some p):p.1.size<=32/\p.2.size<=120:=by
 have h1:=h.2.1 p (OD hp);exact⟨bG h1.1,k7 h1.2⟩
def oK{ps:List Pr}(h:okPs ps):(j6 ps).length<=1600:=by
 have h1:=qz (f:=λ p:Pr=>dK p.1++dK p.2) (B:=172) ps λ p hp=>by
  have h2:=h.2.1 p hp;have h3:=bG h2.1;have h4:=k7 h2.2;have h5:=cU p.1;have h6:=cU p.2;rw[AT];omega
 have h7:=aN ps.length;have h8:=h.1;unfold j6;rw[AT];have h9:172*ps.length<=172*8:=Q3 _ h8;omega
def OkC.L7{n:Nat}{c:Co}(h:OkC n c)(hn:n<=4):c.hd.length=c.rl.length/\c.hd.length<=48:=by
 rcases h.hd with⟨a,b⟩|a
 ·rw[a,b];exact⟨J,IN _⟩
 ·have:=a.len;have:=h.ntk;omega
def OkC.N8{n:Nat}{c:Co}(h:OkC n c)(hn:n<=4){k:Nat}{x:Int}{s:ByteArray}(hx:c.hd[k]? =some x)(hs:c.rl[k]? =some s): -1<=x/\x<=48/\s.size<=32:=by
 have hk:=h.ntk;rcases h.hd with⟨a,b⟩|a
 ·rw[a]at hx;simp at hx
 ·have q2:=a.nm s (OD hs);have q3:s.size<=32:=by
   rcases q2 with e|e
   ·rw[e];exact IN _
   ·exact bG e
  rcases a.el k x hx with e|⟨t,ht,e⟩
  ·exact⟨by omega,by omega,q3⟩
  ·have:=h.tx.nm t ht;exact⟨by omega,by omega,q3⟩
def zI{α β:Type}{l:List α}{m:List β}{k:Nat}{x:α}{y:β}(hx:l[k]? =some x)(hy:m[k]? =some y):(l.zip m)[k]? =some (x,y):=by rw[Sb];exact⟨hx,hy⟩
def j3(nd:List Nd)(hd:List Int)(rl:List ByteArray):List Nat:=uv nd.length++(nd.flatMap ot++(uv hd.length++(hd.zip rl).flatMap j4))
def fU(c:Co)(a:Nat):List ByteArray:=c.tk.map λ t=>t.ns.getD a ByteArray.empty
def EG:∀ {vs:List ByteArray},(∀ v∈vs,v.size<=120/\gj v=true)->j2 vs=0
 |[],_=>rfl
 |v::r,h=>by
  have h1:=h v (by simp);unfold j2;rw[OB (by omega),OB (by rw[h1.2];simp),EG λ x hx=>h x (by simp[hx])]
def yc{s:ByteArray}(h:iX s=true):gj s=true:=by
 unfold iX at h;simp only[OK]at h;exact h.2.1
def wj{n:Nat}{c:Co}(h:OkC n c){a:Nat}(ha:a<c.at_.length){v:ByteArray}(hv:v∈fU c a):v.size<=120/\gj v=true:=by
 obtain⟨t,ht,rfl⟩:=Ps.1 hv;have q:=h.tk t ht;rw[LW,py (by omega:a<t.ns.length)];have:=(q.2 a _ _ (py (by omega:a<t.ns.length)) (py ha)).val;exact⟨k7 this,yc this⟩
def mJ(c:Co)(a:Nat):(fU c a).length=c.tk.length:=by unfold fU;rw[OC]
def tM{n:Nat}{c:Co}(h:OkC n c)(hn:n<=4){a:Nat}(ha:a<c.at_.length):fE (fU c a)=0/\Mg (fU c a):=by
 have h1:=h.ntk;have h2:=mJ c a;have h3:=bW (fU c a);refine⟨?_,⟨by omega,h.N2 a⟩,λ v hv=>(wj h ha hv).1⟩;unfold fE;rw[OB (by omega),EG λ v hv=>wj h ha hv,OB (by simp),OB (by omega)]
def sq{c:Co}{a k:Nat}{t:Tk}{v:ByteArray}(ht:c.tk[k]? =some t)(hv:t.ns[a]? =some v):(c.tk.take (k+1)).map (λ t=>t.ns.getD a ByteArray.empty)=(c.tk.take k).map (λ t=>t.ns.getD a ByteArray.empty)++[v]:=by
 rw[aB ht,Pw,Sh,LW,hv,QZ]
def yd(c:Co)(a:Nat):(c.v.tk.map λ t=>t.getD a ByteArray.empty)=fU c a:=by
 show(c.tk.map (·.ns)).map (λ t=>t.getD a ByteArray.empty)=_;rw[QU];rfl
def EH{ns:List Nat}{S:List (SV×List Nat)}{m k x:Nat}{p:SV×List Nat}{sv:SV}(hx:ns[k]? =some x)(hS:S.map Prod.snd=(List.range m).map (dd (ns.take k)))(hp:S[x]? =some p):(S.set x (sv,p.2++[k])).map Prod.snd=(List.range m).map (dd (ns.take (k+1))):=by
 have hk:k<ns.length:=(sp.1 hx).1;have hl:S.length=m:=by simpa using If List.length hS
 have hxm:x<m:=by have:=(sp.1 hp).1;omega
 have e:∀ j,j<m->(S.map Prod.snd)[j]? =some (dd (ns.take k) j):=λ j hj=>by rw[hS];simp[hj]
 have e0:p.2=dd (ns.take k) x:=by have:=e x hxm;rw[OT,hp]at this;exact OG this
 apply QN;intro j;rw[map_set,Q1];have hsn:ns.take (k+1)=ns.take k++[x]:=aB hx;have hlt:(ns.take k).length=k:=by rw[M2];omega
 by_cases hj:j<m
 ·rw[show((List.range m).map (dd (ns.take (k+1))))[j]? =some (dd (ns.take (k+1)) j) by simp[hj],hsn,BM,hlt];by_cases hxj:x=j
  ·subst hxj;rw[Ow J,Ow (by rw[OC];omega),Ow J,e0]
  ·rw[OB hxj,OB hxj];exact e j hj
 ·have e2:((List.range m).map (dd (ns.take (k+1))))[j]? =none:=OX (by simp;omega);have e3:(S.map Prod.snd)[j]? =none:=OX (by rw[OC];omega);rw[e2,OB (show¬ x=j by omega)];exact e3
def zJ{ns:List Nat}{S:List (SV×List Nat)}{m k:Nat}{p:SV×List Nat}(hS:S.map Prod.snd=(List.range m).map (dd ns))(hp:S[k]? =some p):p.2=dd ns k/\k<m:=by
 have hl:S.length=m:=by simpa using If List.length hS
 have hk:k<m:=by have:=(sp.1 hp).1;omega
 have h1:(S.map Prod.snd)[k]? =some (dd ns k):=by rw[hS];simp[hk]
 rw[OT,hp]at h1;exact⟨OG h1,hk⟩
def zK{l:List Iv}{k:Nat}{x:Iv}(hx:l[k]? =some x):cf 0 ((l.take (k+1)).map Iv.v)=cf 0 ((l.take k).map Iv.v)++Ki (Kj 0 ((l.take k).map Iv.v)) x.v/\Kj 0 ((l.take (k+1)).map Iv.v)=x.b:=by
 rw[aB hx,Pw,Sh,su];exact⟨J,by unfold Kj;rw[Sq];rfl⟩
def oL(l:List Nat)(n W:Nat):List Nat:=(List.range' n (W-n)).flatMap λ n=>df (aq (iJ (dd l n)))
def EI{l:List Nat}{n W:Nat}(h:n<W):oL l n W=df (aq (iJ (dd l n)))++oL l (n+1) W:=by
 unfold oL;rw[show W-n=(W-(n+1))+1 by omega,range'_succ,PM]
def zL{l:List Nat}{n W:Nat}(h:W<=n):oL l n W=[]:=by unfold oL;rw[show W-n=0 by omega];rfl
def EJ(l:List Nat)(W:Nat):oL l 0 W=ye l W:=by unfold oL ye;rw[range_eq_range'];rfl
def B8(l:List Nat):Prop:=∀ x∈l,x<256
theorem B8.app{l m:List Nat}(h:B8 l)(k:B8 m):B8 (l++m):=λ x hx=>(OM.1 hx).elim (h x) (k x)
def B8.fm{α:Type}{f:α->List Nat}{l:List α}(h:∀ x∈l,B8 (f x)):B8 (l.flatMap f):=λ y hy=>by
 obtain⟨x,hx,hy⟩:=Q9.1 hy;exact h x hx y hy
def fH(n:Nat):B8 (uv n):=fw n
def qA(s:ByteArray):B8 (dK s):=(fH _).app (fe s)
def EK{l:List Nat}(h:B8 l):B8 (df l):=(fH _).app h
def IJ(ps:List Pr):B8 (j6 ps):=(fH _).app (B8.fm λ p _=>(qA _).app (qA _))
def tN{l:List Nat}(h:B8 l):B8 (aq l):=h.app (oG _)
def EL:∀ (l:List rq) (z:Int),B8 (cf z l)
 |[],_=>λ x hx=>by cases hx
 |x::l,z=>((qA _).app ((fH _).app ((fH _).app (IJ _)))).app (EL l _)
def Kh{X:List ByteArray->List Nat}{T:List Nat->List Nat}(hX:∀ u,B8 (X u))(hT:∀ l,B8 (T l))(a:ByteArray×Bool)(vs:List ByteArray):B8 (nL X T a vs):=
 (qA _).app ((fH _).app ((EK (hX _)).app ((EK (hT _)).app (B8.fm λ n _=>EK (tN (tF _))))))
def EM{X:List ByteArray->List Nat}{T:List Nat->List Nat}(hX:∀ u,B8 (X u))(hT:∀ l,B8 (T l))(c:oM):B8 (bm X T c):=by
 refine B8.app (λ x hx=>?_) ((fH _).app ((B8.fm λ i _=>Kh hX hT _ _).app ((fH _).app ((B8.fm λ x _=>(qA _).app ((fH _).app (IJ _))).app ((fH _).app ((EL _ _).app ((fH _).app ((B8.fm λ x _=>(qA _).app ((fH _).app ((fH _).app (fH _)))).app ((fH _).app (B8.fm λ x _=>(fH _).app (qA _)))))))))));simp only[LD,KY,OE]at hx;omega
def Hm{ns:List Nat}(h:ns.length<=4096)(k:Nat):(ye ns k).length<=40020*k:=by
 have:=qz (f:=λ n=>df (aq (iJ (dd ns n)))) (B:=40020) (List.range k) λ n _=>by
  have h1:=mB (mK n h);have h2:=aN (aq (iJ (dd ns n))).length;unfold df;rw[AT,aX]at*;omega
 rwa[Sl]at this
def IK:∀ {l:List rq} {z:Int} {k:Nat} {x:rq},IL z l->l[k]? =some x->Kj z (l.take k)<=x.2.1
 |[],_,_,_,_,h=>by simp at h
 |y::l,z,0,x,h,hx=>by
  have e:y=x:=by simpa using hx
  subst e;exact h.1
 |y::l,z,k+1,x,h,hx=>IK (l:=l) (z:=y.2.1) (k:=k) h.2 (by simpa using hx)
def BL{X:List ByteArray->List Nat}{T:List Nat->List Nat}{c:Co}{k:Nat}{x:ByteArray×Bool}(hx:c.at_[k]? =some x):gP X T c.v.at_ c.v.tk (k+1)=gP X T c.v.at_ c.v.tk k++nL X T x (fU c k):=by
 unfold gP;rw[zG,yd,show c.v.at_.getD k (ByteArray.empty,false)=x by rw[LW,show c.v.at_=c.at_ from J,hx];rfl]
def tO(X:List ByteArray->List Nat)(T:List Nat->List Nat)(c:Co):bm X T c.v=[67,83,49]++(uv c.at_.length++(gP X T c.v.at_ c.v.tk c.at_.length++(uv c.tx.length++(c.tx.flatMap (λ x=>tx1 x.v)++(uv c.rg.length++(cf 0 (c.rg.map Iv.v)++j3 c.nd c.hd c.rl)))))):=by
 have e1:c.v.tx.length=c.tx.length:=OC ..;have e2:c.v.rg.length=c.rg.length:=OC ..;have e3:c.v.tx.flatMap tx1=c.tx.flatMap λ x=>tx1 x.v:=QW ..;unfold bm j3;rw[e1,e2,e3];rfl
def zM{bf:Int}{x:rq}(h:x.1.size<=32)(hp:okPs x.2.2.2):(Ki bf x).length<=2000:=by
 have h1:=cU x.1;have h2:=oK hp;have h3:=aN (x.2.1-bf).toNat;have h4:=aN (x.2.2.1-x.2.1).toNat;unfold Ki;simp only[AT];omega
def zN{x:rq}(h:x.1.size<=32)(hp:okPs x.2.2.2):(tx1 x).length<=2000:=by
 have h1:=cU x.1;have h2:=oK hp;have h4:=aN (x.2.2.1-x.2.1).toNat;unfold tx1;simp only[AT];omega
def Hn{n:Nat}{c:Co}(h:OkC n c)(hn:n<=4):(j3 c.nd c.hd c.rl).length<=100000:=by
 have h1:=qz (f:=ot) (B:=80) c.nd λ x hx=>by
  have h2:=bG (h.nd.el x hx).1;have h3:=cU x.nm;have h4:=aN (x.p+1).toNat;have h5:=aN x.b.toNat;have h6:=aN (x.e-x.b).toNat;unfold ot;simp only[AT];omega
 have h2:=qz (f:=j4) (B:=80) (c.hd.zip c.rl) λ x hx=>by
  obtain⟨i,hi⟩:=OV hx;rw[Sb]at hi;have h3:=(h.N8 hn hi.1 hi.2).2.2;have h4:=cU x.2;have h5:=aN (x.1+1).toNat;unfold j4;simp only[AT];omega
 have h3:=h.nnd;have h4:=h.L7 hn;have h5:=aN c.nd.length;have h6:=aN c.hd.length;rw[length_zip]at h2;unfold j3;simp only[AT];omega
