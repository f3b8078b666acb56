/-
 M42g:what holds of stores and disks throughout a history. No program in sight.
-/
import Derived.Test.YtcmldpiicnobnaaGreatDoorM39
set_option linter.all false
open Go.Proofs.YtcmldpiicnobnaaGreatDoor
open List
namespace Go.Kw
def N4:List ByteArray:=[ByteArray.mk #[112],ByteArray.mk #[113],ByteArray.mk #[114],ByteArray.mk #[117]]
abbrev Al:=List (ByteArray×Bool)
structure GoodP(al:Al)(c:Co):Prop where
 ok:OkC 4 c
 at_:c.at_=al
 nm:∀ t∈c.tx,t.nm∈N4
 ex:∀ t∈c.tx,OkC 1 (nJ c t)
structure DocOk(al:Al)(c:Co):Prop where
 ok:OkC 1 c
 at_:c.at_=al
 one:∃ t,c.tx=[t]/\t.nm∈N4
theorem GoodP.qM{al:Al}{c d:Co}(h:GoodP al c)(e:c.v=d.v):GoodP al d where
 ok:=h.ok.qM e
 at_:=(If oM.at_ e).symm.trans h.at_
 nm t ht:=by
  obtain⟨y,hy,e1⟩:=oq (If oM.tx e:c.tx.map Iv.v=d.tx.map Iv.v) ht;rw[<-(v4 e1).1];exact h.nm y hy
 ex t ht:=by
  obtain⟨y,hy,e1⟩:=oq (If oM.tx e:c.tx.map Iv.v=d.tx.map Iv.v) ht;exact(h.ex y hy).qM (Kg e e1)
def IS{l:List Iv}{s:Iv}(h:[s].map Iv.v=l.map Iv.v):∃ t,l=[t]/\t.nm=s.nm:=by
 match l,h with
 |[t],h=>exact⟨t,J,(v4 (RW h).1).1.symm⟩
 |[],h=>simp at h
 |_::_::_,h=>simp at h
theorem DocOk.qM{al:Al}{c d:Co}(h:DocOk al c)(e:c.v=d.v):DocOk al d where
 ok:=h.ok.qM e
 at_:=(If oM.at_ e).symm.trans h.at_
 one:=by
  obtain⟨s,hs,hn⟩:=h.one;obtain⟨t,ht,hm⟩:=IS (l:=d.tx) (s:=s) (by rw[<-hs];exact If oM.tx e);exact⟨t,ht,hm▸hn⟩
def GoodP.doc{al:Al}{c x:Co}{t:Iv}(h:GoodP al c)(ht:t∈c.tx)(e:x.v=(nJ c t).v):DocOk al x where
 ok:=(h.ex t ht).qM e.symm
 at_:=(If oM.at_ e:x.at_=c.at_).trans h.at_
 one:=by
  obtain⟨s,hs,hm⟩:=IS (l:=x.tx) (s:={t with b:=0,e:=t.e-t.b}) (If oM.tx e).symm;exact⟨s,hs,by rw[hm];exact h.nm t ht⟩
theorem OkC.mono{j k:Nat}{c:Co}(h:OkC j c)(hk:j<=k):OkC k c:=⟨h.at_,h.voc,h.tk,h.tx,h.rg,h.nd,h.hd,Pb h.ntk (Q3 _ hk),Pb h.ntx hk,Pb h.nrg (Q3 _ hk),Pb h.nnd (Q3 _ hk)⟩
structure LvI(al:Al)(l:List Lv):Prop where
 ok:∀ x∈l,DocOk al x.co
 nm:l.Pairwise λ x y=>x.nm≠y.nm
theorem DocOk.nm{al:Al}{x:Lv}(h:DocOk al x.co):∀ s∈x.tx,s.nm=x.nm:=λ s hs=>by
 obtain⟨t,ht,_⟩:=h.one;have ht:x.tx=[t]:=ht;rw[ht]at hs;rw[OF.1 hs];unfold Lv.nm;rw[ht]
theorem LvI.nil{al:Al}:LvI al []:=⟨λ x hx=>(by cases hx),.nil⟩
theorem LvI.sub{al:Al}{l m:List Lv}(h:LvI al l)(hs:m.Sublist l):LvI al m:=⟨λ x hx=>h.ok x (hs.subset hx),h.nm.sublist hs⟩
theorem LvI.snoc{al:Al}{l:List Lv}{d:Lv}(h:LvI al l)(hd:DocOk al d.co)(hn:∀ x∈l,x.nm≠d.nm):LvI al (l++[d]):=
 ⟨λ x hx=>by rcases OM.1 hx with q|q;exact h.ok x q;rw[OF.1 q];exact hd,PQ.2 ⟨h.nm,pairwise_singleton _ _,λ a ha b hb=>by rw[OF.1 hb];exact hn a ha⟩⟩
def LvI.NP{al:Al}{l:List Lv}(h:LvI al l):LvsOk al l:=
 ⟨λ x hx=>⟨(h.ok x hx).ok,(h.ok x hx).at_⟩,λ i j x y hx hy hj s hs t ht=>by
  obtain⟨h1,e1⟩:=sp.1 hx;obtain⟨h2,e2⟩:=sp.1 hy;rw[(h.ok x (OD hx)).nm s hs,(h.ok y (OD hy)).nm t ht,<-e1,<-e2];exact PU.1 h.nm j i h2 h1 hj⟩
def sC{α:Type}[DecidableEq α]:∀ {l m:List α},l.Pairwise (·≠·)->(∀ x∈l,x∈m)->l.length<=m.length
 |[],m,_,_=>IN _
 |x::l,m,h,hm=>by
  rw[P2]at h;have h1:=sC (m:=m.erase x) h.2 λ y hy=>(mem_erase_of_ne (λ e=>h.1 y hy e.symm)).2 (hm y (by simp[hy]));have h2:=length_erase_of_mem (hm x (by simp));have h3:=length_pos_of_mem (hm x (by simp));rw[KW];omega
def LvI.len{al:Al}{l:List Lv}(h:LvI al l):l.length<=4:=by
 have:=sC (l:=l.map Lv.nm) (m:=N4) (pairwise_map.2 h.nm) λ x hx=>by
  obtain⟨y,hy,rfl⟩:=Ps.1 hx;obtain⟨t,ht,hn⟩:=(h.ok y hy).one;rw[<-(h.ok y hy).nm t (by show t∈y.co.tx;rw[ht];simp)];exact hn
 rw[OC]at this;exact this
theorem JoinR.u9{al:Al}{l:List Lv}{x:Co}(h:JoinR al l x)(ha:atsOk al):LvI al l->(∀ t∈x.tx,t.nm∈N4)/\∀ t∈x.tx,OkC 1 (nJ x t):=by
 induction h with
 |nil h=>exact λ _=>⟨λ t ht=>(by rw[h.tx]at ht;cases ht),λ t ht=>(by rw[h.tx]at ht;cases ht)⟩
 | @snoc l d a x h hc ih=>
  intro hl;have hl':LvI al l:=hl.sub (sublist_append_left _ _);have hd:=hl.ok d (by simp);have hoa:=h.ok ha hl'.NP;obtain⟨s,hs,hn⟩:=hd.one;refine⟨λ t ht=>?_,λ t ht=>?_⟩<;>rw[hc.tx]at ht<;>rcases eu ht with q|⟨y,hy,rfl⟩
  ·exact(ih hl').1 t q
  ·rw[hs,OF]at hy;rw[hy];exact hn
  ·exact((ih hl').2 t q).qM (yb hoa hd.ok hc q).symm
  ·rw[hs,OF]at hy;rw[hy];exact hd.ok.qM (BJ hoa hd.ok hc (h.names.1.trans hd.at_.symm) hs).symm
def JoinR.MV{al:Al}{l:List Lv}{x:Co}(h:JoinR al l x)(ha:atsOk al)(hl:LvI al l):GoodP al x:=⟨(h.ok ha hl.NP).mono hl.len,h.names.1,(h.u9 ha hl).1,(h.u9 ha hl).2⟩
def oB(s:ByteArray):Prop:=s.data.toList[0]? =some 83
section
variable (B:Co->ByteArray)
def Fl(al:Al)(s:ByteArray):Prop:=s=ByteArray.empty\/∃ c,GoodP al c/\s=B c
def DskOk(al:Al)(d:Dk):Prop:=∀ x∈d.dir,oB x.1->∀ q,d.ino[x.2.toNat]? =some q->Fl B al q.1
def Lx(o:dz):Prop:=(o.k=4->¬ oB o.b)/\(o.k=2\/o.k=3->¬ oB o.a\/o.c=ByteArray.empty)
inductive OpsOk(al:Al):List dz->Prop
 |nil:OpsOk al []
 |one {o:dz} {r:List dz} (h:Lx o) (hr:OpsOk al r):OpsOk al (o::r)
 |two {nm data:ByteArray} {r:List dz} (h:Fl B al data) (hr:OpsOk al r):OpsOk al (⟨1,nm,ByteArray.empty,ByteArray.empty⟩::⟨2,nm,ByteArray.empty,data⟩::r)
end
variable {B:Co->ByteArray}
theorem OpsOk.app{al:Al}{l r:List dz}(h:OpsOk B al l)(hr:OpsOk B al r):OpsOk B al (l++r):=by
 induction h with
 |nil=>exact hr
 |one h _ ih=>exact .one h ih
 |two h _ ih=>exact .two h ih
def ir{o:dz}(h:o.k=1\/o.k=5\/o.k=6):Lx o:=⟨λ e=>(by omega),λ e=>(by omega)⟩
def HM{al:Al}{nm data:ByteArray}{b:Bool}(h:¬ oB nm\/Fl B al data):OpsOk B al (newF nm data b):=by
 have h3:OpsOk B al [(⟨3,nm,ByteArray.empty,ByteArray.empty⟩:dz)]:=.one ⟨λ e=>(by cases e),λ _=>.inr J⟩ .nil;have h1:OpsOk B al ([(⟨1,nm,ByteArray.empty,ByteArray.empty⟩:dz)]++((if data=ByteArray.mk #[]then[]else[(⟨2,nm,ByteArray.empty,data⟩:dz)])++[(⟨3,nm,ByteArray.empty,ByteArray.empty⟩:dz)])):=by
  split
  ·exact .one (ir (.inl J)) h3
  ·rcases h with h|h
   ·exact .one (ir (.inl J)) (.one ⟨λ e=>(by cases e),λ _=>.inl h⟩ h3)
   ·exact .two h h3
 unfold newF;rw[No,No];refine OpsOk.app ?_ h1;split
 ·exact .one (ir (.inr (.inl J))) .nil
 ·exact .nil
def bC{nm data:ByteArray}{b:Bool}:(newF nm data b).length<=4/\∀ o∈newF nm data b,o.c.size<=data.size:=by
 unfold newF;constructor
 ·cases b<;>simp<;>split<;>simp
 ·intro o ho;simp only[OM,OF]at ho;rcases ho with((ho|ho)|ho)|ho
  ·split at ho
   ·rw[OF.1 ho];exact IN _
   ·cases ho
  ·rw[ho];exact IN _
  ·split at ho
   ·cases ho
   ·rw[OF.1 ho];exact KP _
  ·rw[ho];exact IN _
theorem dirOk.inj{l:List En}{n:Int}(h:dirOk l n){x y:En}(hx:x∈l)(hy:y∈l)(e:x.2=y.2):x=y:=by
 obtain⟨i,hi⟩:=OV hx;obtain⟨j,hj⟩:=OV hy;rcases Qr i j with q|q|q
 ·exact absurd e (h.one j i y x hj hi q)
 ·subst q;rw[hi]at hj;exact OG hj
 ·exact absurd e.symm (h.one i j x y hi hj q)
def BT(s:ByteArray):s++ByteArray.empty=s:=by
 cases s;simp[ByteArray.ext_iff]
def BU(s:ByteArray):ByteArray.empty++s=s:=by
 cases s;simp[ByteArray.ext_iff]
def DskOk.NM{al:Al}{d x:Dk}{a c:ByteArray}(h:DskOk B al d)(hd:dirOk d.dir d.ino.length)(e:x.dir=d.dir){z:Int}{q:En}{t:Int}(hf:FindR d.dir a z)(hz:0<=z)(hq:d.ino[z.toNat]? =some q)(hi:x.ino=d.ino.set z.toNat (q.1++c,t))(ho:¬ oB a\/Fl B al (q.1++c)):DskOk B al x:=λ y hy hS p hp=>by
 rw[e]at hy;rw[hi]at hp;have hy2:=hd.rg y hy;by_cases ez:z.toNat=y.2.toNat
 ·rw[ez,P4 (by omega)]at hp;cases hp;rcases ho with ho|ho
  ·rcases hf with⟨w,hw,e1,e2⟩|⟨e1,_⟩
   ·have:=hd.inj hw hy (by omega);rw[this]at e1;rw[e1]at hS;exact absurd hS ho
   ·omega
  ·exact ho
 ·rw[Q7 ez]at hp;exact h y hy hS p hp
theorem DskOk.step{al:Al}{d x:Dk}{o:dz}(h:DskOk B al d)(ho:Lx o)(ha:Mb d o x):DskOk B al x:=by
 obtain⟨hd,⟨hk,e,z,q,t,hf,hz,hq,hi⟩|⟨hk,h1,h2,h3,h4,h5⟩|⟨⟨hk,hs⟩,hi⟩⟩:=ha
 ·by_cases hS:oB o.a
  ·have hc:=(ho.2 hk).resolve_left (λ k=>k hS);refine h.NM hd e hf hz hq hi (.inr ?_);rw[hc,BT];rcases hf with⟨w,hw,e1,e2⟩|⟨e1,_⟩
   ·exact h w hw (e1▸hS) q (e2▸hq)
   ·omega
  ·exact h.NM hd e hf hz hq hi (.inl hS)
 ·intro y hy hS p hp;obtain⟨w,hw,e1,i,hi1,hi2⟩:=h5 y hy;rw[hi2]at hp;rw[<-OG hp];exact h w hw (e1▸hS) i hi1
 ·intro y hy hS p hp;rcases hs y hy with q|⟨q1,q2⟩|⟨q1,q2⟩
  ·have hb:=hd.rg y q;rw[hi]at hp;split at hp
   ·rw[OO (by omega)]at hp;exact h y q hS p hp
   ·exact h y q hS p hp
  ·rw[hi,Ow q1,q2]at hp;simp at hp;rw[<-hp];exact .inl J
  ·rw[q2]at hS;exact absurd hS (ho.1 q1)
def DskOk.run{al:Al}{l:List dz}(hl:OpsOk B al l):∀ {d x:Dk},DskOk B al d->runR l d x->DskOk B al x:=by
 induction hl with
 |nil=>intro d x h hr;rw[hr];exact h
 |one ho _ ih=>intro d x h ⟨y,h1,h2⟩;exact ih (h.step ho h1) h2
 | @two nm data r hf _ ih=>
  intro d x h ⟨y,h1,v,h2,h3⟩;refine ih ?_ h3;have hy:DskOk B al y:=h.step (ir (.inl J)) h1;obtain⟨hd,⟨hk,_⟩|⟨hk,_⟩|⟨⟨hk,hs⟩,hi⟩⟩:=h1
  ·rcases hk with hk|hk<;>cases hk
  ·cases hk
  obtain⟨hd2,⟨hk2,e2,z,q,t,hf2,hz,hq,hi2⟩|⟨hk2,_⟩|⟨⟨hk2,_⟩,_⟩⟩:=h2
  ·refine hy.NM hd2 e2 hf2 hz hq hi2 (.inr ?_);have hq1:q.1=ByteArray.empty:=by
    rcases hf2 with⟨w,hw,e3,e4⟩|⟨e3,_⟩
    ·rcases hs w hw with k|⟨_,k⟩|⟨k,_⟩
     ·rcases hk with⟨_,⟨u,hu,_,e6⟩|⟨_,hn⟩⟩|hk|hk
      ·have:=hd.rg u hu;omega
      ·exact absurd e3 (hn w k)
      ·cases hk
      ·cases hk
     ·rw[hi,Ow J,e4,k]at hq;simp at hq;rw[<-hq]
     ·cases k
    ·omega
   rw[hq1,BU];exact hf
  ·cases hk2
  ·rcases hk2 with⟨hk2,_⟩|hk2|hk2<;>cases hk2
def DskOk.at_{al:Al}{d:Dk}(h:DskOk B al d){nm s:ByteArray}{e:Int}(hS:oB nm)(h1:e=0->(dirOk d.dir d.ino.length/\∀ x∈d.ino,x.1.size<=1048576)/\∃ (z:Int) (q:En),FindR d.dir nm z/\0<=z/\d.ino[z.toNat]? =some q/\q.1=s)(h2:Of e s):Fl B al s:=by
 by_cases he:e=0
 ·obtain⟨_,z,q,hf,hz,hq,rfl⟩:=h1 he;rcases hf with⟨w,hw,e1,e2⟩|⟨e1,_⟩
  ·exact h w hw (e1▸hS) q (e2▸hq)
  ·omega
 ·exact .inl (h2 he)
section
variable (B:Co->ByteArray)
def Mm(al:Al)(r:Rc):Prop:=r.k=1->∃ c,DocOk al c/\r.p=B c
structure SrOk(al:Al)(k:Nat)(u:Sr):Prop where
 e:u.al=al
 st:stOk al u.nx u.jr u.pl
 rn:u.rs.length<=k
 dn:∀ p∈u.pl,p.ns.length<=4
 rc:∀ r∈u.rs,Mm B al r
structure OpsL(al:Al)(l:List dz):Prop where
 ok:OpsOk B al l
 n:l.length<=24
 sz:∀ o∈l,o.c.size<=1099511627776
end
theorem OpsL.nil{al:Al}:OpsL B al []:=⟨.nil,IN _,λ o h=>(by cases h)⟩
theorem SrOk.mono{al:Al}{j k:Nat}{u:Sr}(h:SrOk B al j u)(hk:j<=k):SrOk B al k u:=⟨h.e,h.st,Pb h.rn hk,h.dn,h.rc⟩
def SrOk.more{al:Al}{k:Nat}{u y:Sr}{x:Rc}(h:SrOk B al k u)(hm:MoreR u x y)(hx:Mm B al x):SrOk B al (k+1) y where
 e:=hm.al.trans h.e
 st:=by rw[hm.nx,hm.jr,hm.pl];exact h.st
 rn:=by have:=h.rn;rw[hm.rs,AT,KV];omega
 dn:=by rw[hm.pl];exact h.dn
 rc r hr:=by
  rw[hm.rs]at hr;rcases OM.1 hr with q|q
  ·exact h.rc r q
  ·rw[OF.1 q];exact hx
end Go.Kw
namespace Go.Kw
abbrev PV:=List (Int×List ByteArray)
def kj(al:List (ByteArray×Bool))(nx jr:Int)(ps:PV)(k:Nat)(a:List (ByteArray×Bool))(n j:Int)(q:PV):Prop:=
 a=al.take (k-3)/\n=(if 2<=k then nx else 0)/\j=(if 3<=k then jr else 0)/\q=ps.take (k-3-al.length)
def qE(al:List (ByteArray×Bool))(nx jr:Int)(ps:PV):List (List UInt8):=nN nx jr++al.map xg++ps.map wI++[[]]
def cls(al:List (ByteArray×Bool))(nx jr:Int)(ps:PV)(k:Nat)(W:List ByteArray):Prop:=
 (k=0/\W=[bs dQ,bs [49]])\/(k=1/\W=[bs dR,aZ nx.toNat])\/(k=2/\W=[bs gz,aZ jr.toNat])
 \/(∃ x,3<=k/\al[k-3]? =some x/\W=[bs iS,x.1,bs (setL x.2)])
 \/(∃ p,3+al.length<=k/\ps[k-3-al.length]? =some p/\W=bs gQ::aZ p.1.toNat::p.2)
 \/(k=3+al.length+ps.length/\W=[bs []])
def jD{x:List UInt8}{ws:List (List UInt8)}(h:∀ l∈x::ws,32∉l):bX 32 (bs (bg x ws))=(x::ws).map bs:=by
 unfold bX bg;rw[fh,qD ws x (h x (Pu ..)) λ l hl=>h l (Pe _ hl)]
def nP(n:Nat){c:UInt8}(hc:c.toNat<48):c∉cV n:=λ h=>by have:=lk n c h;omega
def KC(l:List ByteArray):(l.map λ n=>n.data.toList).map bs=l:=by
 rw[QU];conv=>rhs;rw[<-map_id l]
 exact Qq λ x _=>mN x
section
variable {al:List (ByteArray×Bool)} {nx jr:Int} {pl:List Pc} {k:Nat}
def BV{p:Int×List ByteArray}(h:∀ n∈p.2,aU n=true):bX 32 (bs (wI p))=bs gQ::aZ p.1.toNat::p.2:=by
 unfold wI;rw[jD λ l hl=>?_]
 ·rw[P5,P5,KC];rfl
 ·rcases LD.1 hl with rfl|hl
  ·decide
  ·rcases LD.1 hl with rfl|hl
   ·exact nP _ (by decide)
   ·obtain⟨n,hn,rfl⟩:=Ps.1 hl;exact zV (h n hn) (by decide)
def BW{x:ByteArray×Bool}(h:aU x.1=true):bX 32 (bs (xg x))=[bs iS,x.1,bs (setL x.2)]:=by
 unfold xg;rw[jD λ l hl=>?_]
 ·simp only[P5,QS,mN]
 ·rcases LD.1 hl with rfl|hl
  ·decide
  ·rcases LD.1 hl with rfl|hl
   ·exact zV h (by decide)
   ·rw[OF.1 hl];cases x.2<;>decide
def qF:(qE al nx jr (pl.map gI)).length=3+al.length+pl.length+1:=by
 unfold qE nN;simp;omega
def KD(hok:stOk al nx jr pl){L:List ByteArray}(hL:L=(qE al nx jr (pl.map gI)).map bs){x:ByteArray}(hx:L[k]? =some x):cls al nx jr (pl.map gI) k (bX 32 x):=by
 subst hL;rw[OT]at hx;obtain⟨y,hy,rfl⟩:=P3.1 hx;have hkl:=(sp.1 hy).1;rw[qF]at hkl;unfold qE at hy;have h3:(nN nx jr).length=3:=rfl;rcases OI k 3 with h|h
 ·rw[No,No,OO (by omega)]at hy;have hc:k=0\/k=1\/k=2:=by omega
  rcases hc with rfl|rfl|rfl
  ·have e:y=bg dQ [[49]]:=by have:=hy;simp[nN]at this;exact this.symm
   subst e;exact .inl ⟨J,by rw[jD (by decide)];rfl⟩
  ·have e:y=bg dR [cV nx.toNat]:=by have:=hy;simp[nN]at this;exact this.symm
   subst e;refine .inr (.inl ⟨J,?_⟩);rw[jD λ l hl=>?_]
   ·rfl
   ·rcases LD.1 hl with rfl|hl
    ·decide
    ·rw[OF.1 hl];exact nP _ (by decide)
  ·have e:y=bg gz [cV jr.toNat]:=by have:=hy;simp[nN]at this;exact this.symm
   subst e;refine .inr (.inr (.inl ⟨J,?_⟩));rw[jD λ l hl=>?_]
   ·rfl
   ·rcases LD.1 hl with rfl|hl
    ·decide
    ·rw[OF.1 hl];exact nP _ (by decide)
 ·rw[No,No,OU (by omega),h3]at hy;rcases OI (k-3) al.length with h4|h4
  ·rw[OO (by simpa using h4),OT]at hy;obtain⟨z,hz,rfl⟩:=P3.1 hy;exact .inr (.inr (.inr (.inl ⟨z,h,hz,BW (hok.names z (OD hz))⟩)))
  ·rw[OU (by simpa using h4),OC]at hy;rcases OI (k-3-al.length) pl.length with h5|h5
   ·rw[OO (by simpa using h5),OT]at hy;obtain⟨p,hp,rfl⟩:=P3.1 hy;have hpm:=OD hp;obtain⟨p0,hp0,rfl⟩:=Ps.1 hpm;exact .inr (.inr (.inr (.inr (.inl ⟨gI p0,by omega,hp,BV (hok.Jc p0 hp0).2.2.names⟩))))
   ·rw[OU (by simpa using h5)]at hy;have h6:k-3-al.length-(List.map wI (pl.map gI)).length=0:=by simp;omega
    rw[h6]at hy;have e:y=[]:=by simpa using hy.symm
    subst e;refine .inr (.inr (.inr (.inr (.inr ⟨by rw[OC];omega,J⟩))))
def wL(hok:stOk al nx jr pl):bX 10 (bs (jC al nx jr (pl.map gI)))=(qE al nx jr (pl.map gI)).map bs:=by
 unfold bX;rw[fh,yh];refine If (List.map bs) (qC (c:=10) (nN nx jr++al.map xg++(pl.map gI).map wI) λ l hl=>?_)
 ·have hsp:∀ (x:List UInt8) (ws:List (List UInt8)),(∀ l∈x::ws,10∉l)->10∉bg x ws:=λ x ws h h9=>by
   unfold bg at h9;rcases OM.1 h9 with h9|h9
   ·exact h x (Pu ..) h9
   ·obtain⟨q,hq,h8⟩:=Q9.1 h9;rcases LD.1 h8 with h8|h8
    ·exact absurd h8 (by decide)
    ·exact h q (Pe _ hq) h8
  rcases OM.1 hl with hl|hl
  ·rcases OM.1 hl with hl|hl
   ·have hc:l=bg dQ [[49]]\/l=bg dR [cV nx.toNat]\/l=bg gz [cV jr.toNat]:=by simpa[nN]using hl
    rcases hc with rfl|rfl|rfl
    ·decide
    ·exact hsp _ _ λ q hq=>by
      rcases LD.1 hq with rfl|hq
      ·decide
      ·rw[OF.1 hq];exact nP _ (by decide)
    ·exact hsp _ _ λ q hq=>by
      rcases LD.1 hq with rfl|hq
      ·decide
      ·rw[OF.1 hq];exact nP _ (by decide)
   ·obtain⟨x,hx,rfl⟩:=Ps.1 hl;exact hsp _ _ λ q hq=>by
     rcases LD.1 hq with rfl|hq
     ·decide
     ·rcases LD.1 hq with rfl|hq
      ·exact zV (hok.names x hx) (by decide)
      ·rw[OF.1 hq];cases x.2<;>decide
  ·obtain⟨p,hp,rfl⟩:=Ps.1 hl;obtain⟨p0,hp0,rfl⟩:=Ps.1 hp;exact hsp _ _ λ q hq=>by
    rcases LD.1 hq with rfl|hq
    ·decide
    ·rcases LD.1 hq with rfl|hq
     ·exact nP _ (by decide)
     ·obtain⟨n,hn,rfl⟩:=Ps.1 hq;exact zV ((hok.Jc p0 hp0).2.2.names n hn) (by decide)
end
section
variable {al:List (ByteArray×Bool)} {nx jr:Int} {ps:PV} {k:Nat} {a:List (ByteArray×Bool)} {n j:Int} {q:PV} {W:List ByteArray} {y0:ByteArray}
def BX:kj al nx jr ps 0 [] 0 0 []:=⟨by simp,by simp,by simp,by simp⟩
def Fc(h:kj al nx jr ps k a n j q)(hk:4+al.length+ps.length<=k):al=a/\nx=n/\jr=j/\ps=q:=by
 obtain⟨h1,h2,h3,h4⟩:=h;rw[Ow (by omega)]at h2 h3;rw[OA (by omega)]at h1 h4;exact⟨h1.symm,h2.symm,h3.symm,h4.symm⟩
def zZ(hk:k=0\/k=3+al.length+ps.length)(h:kj al nx jr ps k a n j q):kj al nx jr ps (k+1) a n j q:=by
 obtain⟨h1,h2,h3,h4⟩:=h;rcases hk with rfl|rfl
 ·exact⟨by simpa using h1,by simpa using h2,by simpa using h3,by simpa using h4⟩
 ·rw[OA (by omega)]at h1 h4;rw[Ow (by omega)]at h2 h3;exact⟨by rw[h1,OA (by omega)],by rw[h2,Ow (by omega)],by rw[h3,Ow (by omega)],by rw[h4,OA (by omega)]⟩
def N7:bs dQ≠bs dR/\bs dQ≠bs gz/\bs dQ≠bs iS/\bs dQ≠bs gQ/\bs dR≠bs gz/\bs dR≠bs iS/\bs dR≠bs gQ/\bs gz≠bs iS/\bs gz≠bs gQ/\bs iS≠bs gQ/\bs []≠bs dR/\bs []≠bs gz/\bs []≠bs iS/\bs []≠bs gQ:=by decide
def HN(hc:cls al nx jr ps k W)(h0:W[0]? =some y0)(he:y0=bs dR){y:ByteArray}(hy:W[1]? =some y){m:Int}(hm:y=aZ nx.toNat->m=nx)(h:kj al nx jr ps k a n j q):kj al nx jr ps (k+1) a m j q:=by
 obtain⟨e1,e2,e3,e4,e5,e6,e7,e8,e9,e10,e11,e12,e13,e14⟩:=N7;subst he;rcases hc with⟨rfl,rfl⟩|⟨rfl,rfl⟩|⟨rfl,rfl⟩|⟨x,_,_,rfl⟩|⟨x,_,_,rfl⟩|⟨rfl,rfl⟩
 ·exact absurd (OG h0) e1
 ·obtain⟨h1,h2,h3,h4⟩:=h;have hy2:aZ nx.toNat=y:=OG hy;exact⟨by simpa using h1,by rw[hm hy2.symm];rfl,by simpa using h3,by simpa using h4⟩
 ·exact absurd (OG h0).symm e5
 ·exact absurd (OG h0).symm e6
 ·exact absurd (OG h0).symm e7
 ·exact absurd (OG h0) e11
def HO(hc:cls al nx jr ps k W)(h0:W[0]? =some y0)(he:y0=bs gz){y:ByteArray}(hy:W[1]? =some y){m:Int}(hm:y=aZ jr.toNat->m=jr)(h:kj al nx jr ps k a n j q):kj al nx jr ps (k+1) a n m q:=by
 obtain⟨e1,e2,e3,e4,e5,e6,e7,e8,e9,e10,e11,e12,e13,e14⟩:=N7;subst he;rcases hc with⟨rfl,rfl⟩|⟨rfl,rfl⟩|⟨rfl,rfl⟩|⟨x,_,_,rfl⟩|⟨x,_,_,rfl⟩|⟨rfl,rfl⟩
 ·exact absurd (OG h0) e2
 ·exact absurd (OG h0) e5
 ·obtain⟨h1,h2,h3,h4⟩:=h;have hy2:aZ jr.toNat=y:=OG hy;exact⟨by simpa using h1,by rw[h2];rfl,by rw[hm hy2.symm];rfl,by simpa using h4⟩
 ·exact absurd (OG h0).symm e8
 ·exact absurd (OG h0).symm e9
 ·exact absurd (OG h0) e12
def Aa(hc:cls al nx jr ps k W)(h0:W[0]? =some y0)(he:y0=bs iS){y:ByteArray}(hy:W[1]? =some y){b:Bool}(hb:∀ z,W[2]? =some z->b=decide (z=bs [49]))(h:kj al nx jr ps k a n j q):kj al nx jr ps (k+1) (a++[(y,b)]) n j q:=by
 obtain⟨e1,e2,e3,e4,e5,e6,e7,e8,e9,e10,e11,e12,e13,e14⟩:=N7;subst he;rcases hc with⟨rfl,rfl⟩|⟨rfl,rfl⟩|⟨rfl,rfl⟩|⟨x,hk,hx,rfl⟩|⟨x,_,_,rfl⟩|⟨rfl,rfl⟩
 ·exact absurd (OG h0) e3
 ·exact absurd (OG h0) e6
 ·exact absurd (OG h0) e8
 ·obtain⟨h1,h2,h3,h4⟩:=h;have hy2:x.1=y:=OG hy;have hb2:b=x.2:=by
   rw[hb (bs (setL x.2)) J];cases x.2<;>decide
  have hxl:=(sp.1 hx).1;refine⟨?_,by rw[h2,Ow (by omega),Ow (by omega)],by rw[h3,Ow (by omega),Ow (by omega)],?_⟩
  ·rw[show k+1-3=(k-3)+1 by omega,vZ hx,<-h1,hb2,<-hy2]
  ·rw[h4,show k-3-al.length=0 by omega,show k+1-3-al.length=0 by omega]
 ·exact absurd (OG h0).symm e10
 ·exact absurd (OG h0) e13
def Fe(hc:cls al nx jr ps k W)(h0:W[0]? =some y0)(he:y0=bs gQ){y:ByteArray}(hy:W[1]? =some y){m:Int}(hm:∀ p∈ps,y=aZ p.1.toNat->m=p.1)(h:kj al nx jr ps k a n j q):kj al nx jr ps (k+1) a n j (q++[(m,W.drop 2)]):=by
 obtain⟨e1,e2,e3,e4,e5,e6,e7,e8,e9,e10,e11,e12,e13,e14⟩:=N7;subst he;rcases hc with⟨rfl,rfl⟩|⟨rfl,rfl⟩|⟨rfl,rfl⟩|⟨x,hk,hx,rfl⟩|⟨x,hk,hx,rfl⟩|⟨rfl,rfl⟩
 ·exact absurd (OG h0) e4
 ·exact absurd (OG h0) e7
 ·exact absurd (OG h0) e9
 ·exact absurd (OG h0) e10
 ·obtain⟨h1,h2,h3,h4⟩:=h;have hy2:aZ x.1.toNat=y:=OG hy;have hm2:=hm x (OD hx) hy2.symm;refine⟨?_,by rw[h2,Ow (by omega),Ow (by omega)],by rw[h3,Ow (by omega),Ow (by omega)],?_⟩
  ·rw[h1,OA (by omega),OA (by omega)]
  ·rw[show k+1-3-al.length=(k-3-al.length)+1 by omega,vZ hx,<-h4,hm2];rfl
 ·exact absurd (OG h0) e14
def Ab(hc:cls al nx jr ps k W)(h0:W[0]? =some y0)(n1:¬ (y0=bs dR/\W.length=2))(n2:¬ (y0=bs gz/\W.length=2))(n3:¬ (y0=bs iS/\W.length=3))(n4:¬ (y0=bs gQ/\2<=W.length))(h:kj al nx jr ps k a n j q):kj al nx jr ps (k+1) a n j q:=by
 rcases hc with⟨rfl,rfl⟩|⟨rfl,rfl⟩|⟨rfl,rfl⟩|⟨x,hk,hx,rfl⟩|⟨x,hk,hx,rfl⟩|⟨rfl,rfl⟩
 ·exact zZ (.inl J) h
 ·exact absurd ⟨(OG h0).symm,J⟩ n1
 ·exact absurd ⟨(OG h0).symm,J⟩ n2
 ·exact absurd ⟨(OG h0).symm,J⟩ n3
 ·exact absurd ⟨(OG h0).symm,by simp⟩ n4
 ·exact zZ (.inr J) h
end
def wM(s:ByteArray):strOf (aF s)=s:=by unfold aF;rw[jc]
def qG{al:List (ByteArray×Bool)}{nx jr:Int}{ps:PV}{s:ByteArray}(h:s=qx al nx jr ps):aF s=aq (gH (jC al nx jr ps)):=by
 have hl:∀ x∈aq (gH (jC al nx jr ps)),x<256:=λ x hx=>by
  rcases OM.1 hx with hx|hx
  ·exact Es _ x hx
  ·exact oG _ x hx
 exact(Bi (fe s) hl).1 (by rw[wM,h];rfl)
def HP{a b:List UInt8}(h:gH a=gH b):a=b:=by
 have:=If strOf h;rw[nH,nH]at this;exact Ky this
def sD{al:List (ByteArray×Bool)}{nx jr:Int}{ps:PV}{s:ByteArray}(h:s=qx al nx jr ps):4<=s.size/\s.extract 0 (s.size-4)=bs (jC al nx jr ps):=by
 have hb:=qG h;have hl:=If List.length hb;rw[aj]at hl;unfold aq at hl hb;rw[AT,k5]at hl;have h4:(gZ (ep (gH (jC al nx jr ps)))).length=4:=rfl;refine⟨by omega,?_⟩;rw[KA];refine If bs ?_;rw[PK,QT];apply HP;have e:gH (s.data.toList.take (s.size-4))=(aF s).take (s.size-4):=by unfold gH aF;rw[Qt]
 rw[e,hb,hl,h4,Qu (by rw[k5];omega),OA (by rw[k5];omega)]
noncomputable def manO(al:List (ByteArray×Bool))(nx jr:Int)(pl:List Pc):ByteArray:=cond (stB al nx jr pl) (qx al nx jr (pl.map gI)) ByteArray.empty
noncomputable def manE(al:List (ByteArray×Bool))(nx jr:Int)(pl:List Pc):Nat:=cond (stB al nx jr pl) 0 1
def sE{al:List (ByteArray×Bool)}{nx jr:Int}{pl:List Pc}(h:manE al nx jr pl=0):stOk al nx jr pl/\manO al nx jr pl=qx al nx jr (pl.map gI):=by
 unfold manE at h;cases hb:stB al nx jr pl with
 |false=>rw[hb]at h;cases h
 |true=>exact⟨dE.1 hb,by unfold manO;rw[hb];rfl⟩
def tZ{al:List (ByteArray×Bool)}{nx jr:Int}{pl:List Pc}(h:stOk al nx jr pl):manE al nx jr pl=0/\manO al nx jr pl=qx al nx jr (pl.map gI):=by
 unfold manE manO;rw[dE.2 h];exact⟨J,J⟩
def Ff{al:List (ByteArray×Bool)}{nx jr:Int}{pl ql:List Pc}(h:pl.map gI=ql.map gI):stOk al nx jr pl↔stOk al nx jr ql:=by
 have key:∀ {pl ql:List Pc},pl.map gI=ql.map gI->stOk al nx jr pl->stOk al nx jr ql:=λ{pl ql} h hok=>by
  have hl:pl.length=ql.length:=by have:=If List.length h;simpa using this
  have hf:∀ i,(pl.take i).map Pc.f=(ql.take i).map Pc.f:=λ i=>by
   have h9:=If (λ l:PV=>(l.take i).map Prod.fst) h;simp only[<-Qt,QU]at h9;exact h9
  refine⟨hok.1,hok.2.1,hok.2.2.1,hok.2.2.2.1,by have:=hok.2.2.2.2.1;omega,λ i p hp=>?_⟩;have hi:=(sp.1 hp).1;obtain⟨p0,hp0⟩:∃ p0,pl[i]? =some p0:=⟨_,py (by omega)⟩;have he:=If (λ l:PV=>l[i]?) h;simp only[OT,hp,hp0,PY,PJ]at he;have e1:p0.f=p.f:=If Prod.fst he;have e2:p0.ns=p.ns:=If Prod.snd he;have:=hok.2.2.2.2.2 i p0 hp0;rw[e1,e2,hf i]at this;exact this
 exact⟨key h,key h.symm⟩
def dj(s:ByteArray)(al:List (ByteArray×Bool))(nx jr:Int)(ps:PV):Prop:=∃ pl,stOk al nx jr pl/\ps=pl.map gI/\s=qx al nx jr ps
def u3{s:ByteArray}{al:List (ByteArray×Bool)}{nx jr:Int}{ps:PV}(h:dj s al nx jr ps):(1<=nx/\nx<=1000000000)/\(1<=jr/\jr<=1000000000)/\∀ p∈ps,1<=p.1/\p.1<=1000000000:=by
 obtain⟨pl,hok,rfl,_⟩:=h;have h1:=hok.2.1;have h2:=hok.2.2.1;have h3:=hok.2.2.2.1;refine⟨by omega,by omega,λ p hp=>?_⟩;obtain⟨p0,hp0,rfl⟩:=Ps.1 hp;have:=hok.Jc p0 hp0;show 1<=p0.f/\p0.f<=_;omega
def BY{s:ByteArray}{al:List (ByteArray×Bool)}{nx jr:Int}{ps:PV}(h:dj s al nx jr ps):4<=s.size/\s.extract 0 (s.size-4)=bs (jC al nx jr ps):=by
 obtain⟨pl,hok,rfl,hs⟩:=h;exact sD hs
def gA{s b:ByteArray}{al:List (ByteArray×Bool)}{nx jr:Int}{ps:PV}(h:dj s al nx jr ps)(hb:b=bs (jC al nx jr ps)){k:Nat}{x:ByteArray}(hx:(bX 10 b)[k]? =some x):cls al nx jr ps k (bX 32 x):=by
 obtain⟨pl,hok,rfl,hs⟩:=h;exact KD hok (by rw[hb];exact wL hok) hx
def Fg{s b:ByteArray}{al:List (ByteArray×Bool)}{nx jr:Int}{ps:PV}(h:dj s al nx jr ps)(hb:b=bs (jC al nx jr ps)){k:Nat}(hk:(bX 10 b).length<=k){a:List (ByteArray×Bool)}{n j:Int}{q:PV}(ht:kj al nx jr ps k a n j q):al=a/\nx=n/\jr=j/\ps=q:=by
 obtain⟨pl,hok,rfl,hs⟩:=h;refine Fc ht ?_;rw[hb,wL hok,OC,qF]at hk;rw[OC];omega
def Mn{z:Int}(h:1<=z/\z<=1000000000){y:ByteArray}(hy:y=aZ z.toNat):((KB y:Nat):Int)=z:=by
 rw[hy,F9 (by omega)];omega
def qH{z:Int}(h:1<=z/\z<=1000000000){y:ByteArray}(hy:y=aZ z.toNat):jB y=z:=by
 rw[hy,Fa (by omega)];omega
def KE{s:ByteArray}{a:List (ByteArray×Bool)}{n j:Int}{q:List Pc}(hend:∀ al nx jr ps,dj s al nx jr ps->al=a/\nx=n/\jr=j/\ps=q.map gI)(hno:manE a n j q≠0\/manO a n j q≠s):∀ al nx jr ps,¬ dj s al nx jr ps:=λ al nx jr ps hg=>by
 obtain⟨rfl,rfl,rfl,he⟩:=hend al nx jr ps hg;obtain⟨pl,hok,hpe,hs⟩:=hg;have hok2:stOk al nx jr q:=(Ff (hpe.symm.trans he)).1 hok;have h1:=tZ hok2;rcases hno with h|h
 ·exact h h1.1
 ·exact h (by rw[h1.2,hs,he])
def HQ{s:ByteArray}{a:List (ByteArray×Bool)}{n j:Int}{q:List Pc}(h:¬ (manE a n j q≠0\/manO a n j q≠s)):dj s a n j (q.map gI):=by
 simp only[not_or,Po]at h;obtain⟨h1,h2⟩:=sE h.1;exact⟨q,h1,J,by rw[<-h2];exact h.2.symm⟩
def ka{s:ByteArray}{al:List (ByteArray×Bool)}{nx jr:Int}{ps:PV}(h:dj s al nx jr ps):aF s=aq (gH (jC al nx jr ps)):=by
 obtain⟨pl,hok,rfl,hs⟩:=h;exact qG hs
def jE{s:ByteArray}{al:List (ByteArray×Bool)}{nx jr:Int}{ps:PV}{p:List Nat}(hp:aF s=aq p)(h:dj s al nx jr ps):strOf p=bs (jC al nx jr ps):=by
 have:=BN (hp.symm.trans (ka h));rw[this,nH]
def yi{a b c:Nat}(h:a^^^b=a^^^c):b=c:=by
 have:=If (a^^^ ·) h;simpa[<-QL]using this
def Fh{a b c:Nat}(h:a^^^c=b^^^c):a=b:=by
 rw[Rr a,Rr b]at h;exact yi h
def HR:∀ i<16,∀ j<16,mr i/2^28=mr j/2^28->i=j:=by decide
def Ac{a:Nat}(h:a<4294967296):oz a/2^28=mr (a%2^4)/2^28:=by
 unfold oz;rw[<-R6 (_^^^_),Nat.shiftRight_xor_distrib,R6,R6,show a/2^4/2^28=0 by omega,Nat.zero_xor]
def mQ{a b:Nat}(ha:a<4294967296)(hb:b<4294967296)(h:oz a=oz b):a=b:=by
 have h1:=HR (a%2^4) (by omega) (b%2^4) (by omega) (by rw[<-Ac ha,<-Ac hb,h]);unfold oz at h;rw[h1]at h;have:=Fh h;omega
def KF{v u c:Nat}(hv:v<4294967296)(hu:u<4294967296)(hc:c<256)(h:qf v c=qf u c):v=u:=
 Fh (mQ (ca hv (by omega)) (ca hu (by omega)) (mQ (fg (ca hv (by omega))) (fg (ca hu (by omega))) h))
def KH{v c d:Nat}(hv:v<4294967296)(hc:c<256)(hd:d<256)(h:qf v c=qf v d):c=d:=
 yi (mQ (ca hv (by omega)) (ca hv (by omega)) (mQ (fg (ca hv (by omega))) (fg (ca hv (by omega))) h))
def mR{v c:Nat}(hv:v<4294967296)(hc:c<256):qf v c<4294967296:=fg (fg (ca hv (by omega)))
def oP:∀ (l:List Nat) {v:Nat},(∀ x∈l,x<256)->v<4294967296->l.foldl qf v<4294967296
 |[],_,_,h=>h
 |c::r,_,hl,h=>oP r (λ x hx=>hl x (by simp[hx])) (mR h (hl c (by simp)))
def wN:∀ (l:List Nat) {v u:Nat},(∀ x∈l,x<256)->v<4294967296->u<4294967296->l.foldl qf v=l.foldl qf u->v=u
 |[],_,_,_,_,_,h=>h
 |c::r,_,_,hl,hv,hu,h=>by
  have hc:=hl c (by simp);exact KF hv hu hc (wN r (λ x hx=>hl x (by simp[hx])) (mR hv hc) (mR hu hc) h)
def Fi{a r:List Nat}{c d:Nat}(ha:∀ x∈a,x<256)(hr:∀ x∈r,x<256)(hc:c<256)(hd:d<256)(h:mu (a++c::r)=mu (a++d::r)):c=d:=by
 unfold mu at h;rw[Sq,Sq,Q5,Q5]at h;have hv:=oP a ha (show 4294967295<4294967296 by omega);exact KH hv hc hd (wN r hr (mR hv hc) (mR hv hd) h)
def Fj{a b:Nat}(ha:a<4294967296)(hb:b<4294967296)(h:gZ a=gZ b):a=b:=by
 simp only[gZ,Sj,Sg]at h;omega
def Fk{p q:List Nat}{k v:Nat}(hp:∀ x∈p,x<256)(hv:v<256)(hk:k<(aq p).length)(hne:(aq p)[k]? ≠some v):(aq p).set k v≠aq q:=by
 intro h;have hl:(p++gZ (ep p)).length=(q++gZ (ep q)).length:=by have:=If List.length h;rwa[Oz]at this
 have hl2:p.length=q.length:=by simpa[gZ]using hl
 have hb:∀ u,(gZ u).length=4:=λ _=>J;unfold aq at h hk hne;by_cases hkp:k<p.length
 ·rw[Sw _ _ hkp]at h;have⟨h1,h2⟩:=append_inj h (by rw[Oz,hl2]);have hs:ep p=ep q:=by
   have b1:∀ x∈q,x<256:=by
    intro x hx;rw[<-h1]at hx;rcases Qf hx with h|h
    ·exact hp x h
    ·rw[h];exact hv
   exact Fj (ca (by omega) (oP p hp (by omega))) (ca (by omega) (oP q b1 (by omega))) h2
  have hc:=yi hs;have e1:p=p.take k++p[k]::p.drop (k+1):=by rw[getElem_cons_drop,P0]
  have e2:q=p.take k++v::p.drop (k+1):=by rw[<-h1,PA,Ow hkp]
  rw[e2]at hc;rw[show mu p=mu (p.take k++p[k]::p.drop (k+1))from If mu e1]at hc;have:=Fi (λ x hx=>hp x (OS hx)) (λ x hx=>hp x (P1 hx)) (hp _ (Sa hkp)) hv hc;exact hne (by rw[OO hkp,py hkp,this])
 ·rw[Q2 _ _ (by omega)]at h;have⟨h1,h2⟩:=append_inj h hl2;subst h1;have h3:=If (·[k-p.length]?) h2;simp only[Q1]at h3;rw[OU (by omega)]at hne;rw[AT]at hk;simp at h3;rw[Ow (by have:=hb (ep p);omega)]at h3;exact hne h3.symm
def HS{s:ByteArray}{p:List Nat}{k b:Nat}(hs:aF s=aq p)(hp:∀ x∈p,x<256)(hb:b<256)(hk:k<s.size)(hne:(aF s)[k]? ≠some b):(strOf ((aF s).set k b)).size<=s.size+1/\(∀ q,aF (strOf ((aF s).set k b))=aq q->Og q p)/\s≠strOf ((aF s).set k b):=by
 have hl:∀ x∈(aF s).set k b,x<256:=λ x hx=>by
  rcases Qf hx with h|h
  ·exact fe s x h
  ·rw[h];exact hb
 refine⟨?_,λ q hq=>?_,λ h=>?_⟩
 ·rw[aI,Oz,aj];omega
 ·rw[eZ hl,hs]at hq;exact absurd hq (Fk hp hb (by rw[<-hs,aj];exact hk) (by rw[<-hs];exact hne))
 ·have h1:=If aF h;rw[eZ hl]at h1;rw[h1,Q1,Ow J,Ow (by rw[aj];exact hk)]at hne;exact hne J
def bl:Enc Lv:=⟨7,λ x=>[x.sa.val,x.st.val,x.sx.val,x.sr.val,x.sn.val,x.sh.val,x.sl.val],λ _=>J,λ x u h=>by simp at h;rcases h with rfl|rfl|rfl|rfl|rfl|rfl|rfl<;>rfl⟩
@[reducible] def Lv.at(x:Lv)(z:Int):Lv:=⟨x.sa,x.st,x.sx,x.sr,x.sn,x.sh,x.sl,x.at_,x.tk,x.tx,x.rg,x.nd,x.hd,x.rl,z⟩
def RdC.lv{w:World}{x:Co}(h:RdC w x)(z:Int):∃ y:Lv,x=y.co/\y.pc=z:=by
 obtain⟨va,vt,vx,vr,vn,vh,vl,a,tk,tx,rg,nd,hd,rl⟩:=x;obtain⟨sa,ea,_⟩:=h.a.sv;obtain⟨st,et,_⟩:=h.t.sv;obtain⟨sx,ex,_⟩:=h.x.sv;obtain⟨sr,er,_⟩:=h.r.sv;obtain⟨sn,en,_⟩:=h.n.sv;obtain⟨sh,eh,_⟩:=h.h.sv;obtain⟨sl,el,_⟩:=h.l.sv;simp only at ea et ex er en eh el;subst ea et ex er en eh el;exact⟨⟨sa,st,sx,sr,sn,sh,sl,a,tk,tx,rg,nd,hd,rl,z⟩,J,J⟩
variable {B:Co->ByteArray} {al:List (ByteArray×Bool)}
theorem RdLv.snoc{w:World}{l:List Lv}{x:Lv}(h:RdLv w l)(hx:RdC w x.co):RdLv w (l++[x]):=λ y hy=>by
 rcases OM.1 hy with q|q
 ·exact h y q
 ·rw[OF.1 q];exact hx
theorem RdLv.nil(w:World):RdLv w []:=λ x hx=>(by cases hx)
def DocOk.N0{x:Co}(h:DocOk al x):x.tx.length=1:=by obtain⟨t,ht,_⟩:=h.one;rw[ht];rfl
theorem LvI.tx1{l:List Lv}(h:LvI al l):∀ x∈l,0<x.tx.length:=λ x hx=>by have:=(h.ok x hx).N0;show 0<x.co.tx.length;omega
def GoodP.ntx{x:Co}(h:GoodP al x):x.tx.length<=4:=h.ok.ntx
def BZ{l:List Lv}{x:Lv}(h:∀ y∈l,DocOk al y.co)(hx:DocOk al x.co):∀ y∈l++[x],DocOk al y.co:=λ y hy=>by
 rcases OM.1 hy with q|q
 ·exact h y q
 ·rw[OF.1 q];exact hx
def Ad{α:Type}{l:List α}{k:Nat}:(((l.take k).drop 0)++(l.take l.length).drop (k+1)).Sublist l:=by
 rw[PK,P7]
 conv=>rhs;rw[<-P0 k l]
 exact(Sd _).append (by rw[show k+1=k+1 from J,<-drop_drop];exact drop_sublist 1 _)
def sF{α:Type}{l a:List α}{j:Nat}{z:α}(h:a.Sublist (l.take j))(hz:l[j]? =some z):(a++[z]).Sublist (l.take (j+1))/\a.Sublist (l.take (j+1)):=by
 have e:l.take (j+1)=l.take j++[z]:=by rw[QF,hz];rfl
 rw[e];exact⟨h.append (Sd _),h.trans (sublist_append_left _ _)⟩
def FndR(l:List Lv)(nm:ByteArray)(z:Int):Prop:=(z= -1/\∀ x∈l,x.nm≠nm)\/∃ (k:Nat) (x:Lv),z=(k:Int)/\l[k]? =some x/\x.nm=nm
theorem FndR.no{l:List Lv}{nm:ByteArray}{z:Int}(h:FndR l nm z)(hz:z= -1):∀ x∈l,x.nm≠nm:=by
 rcases h with h|⟨k,x,e,_⟩
 ·exact h.2
 ·omega
theorem FndR.yes{l:List Lv}{nm:ByteArray}{z:Int}(h:FndR l nm z)(hz:¬ z= -1):∃ (k:Nat) (x:Lv),z=(k:Int)/\l[k]? =some x/\x.nm=nm:=h.resolve_left λ q=>hz q.1
def wO(s:ByteArray):oB (ByteArray.mk #[83,69,71,77,69,78,84,46]++s):=by
 show(ByteArray.mk #[83,69,71,77,69,78,84,46]++s).data.toList[0]? =some 83;rw[RD];simp
def kb(s:ByteArray):¬ oB (ByteArray.mk #[74,79,85,82,78,65,76,46]++s):=by
 show¬ (ByteArray.mk #[74,79,85,82,78,65,76,46]++s).data.toList[0]? =some 83;rw[RD];simp
theorem DskOk.nil:DskOk B al Dk.nil:=λ x hx=>(by cases hx)
theorem DskOk.all{d x:Dk}{l:List dz}(h:DskOk B al d)(hl:OpsL B al l)(hx:x=Dk.nil\/runR l d x):DskOk B al x:=by
 rcases hx with rfl|hx
 ·exact .nil
 ·exact h.run hl.ok hx
def SrOk.self{k:Nat}{u:Sr}(h:SrOk B al k u):SrOk B u.al k u:=by have e:=h.e;subst e;exact h
structure OpsN(B:Co->ByteArray)(al:List (ByteArray×Bool))(n:Nat)(l:List dz):Prop where
 ok:OpsOk B al l
 n:l.length<=n
 sz:∀ o∈l,o.c.size<=1099511627776
theorem OpsN.nil{n:Nat}:OpsN B al n []:=⟨.nil,IN _,λ o h=>(by cases h)⟩
theorem OpsN.app{a b n:Nat}{l m:List dz}(h1:OpsN B al a l)(h2:OpsN B al b m)(hn:a+b<=n):OpsN B al n (l++m):=
 ⟨h1.ok.app h2.ok,by rw[AT];have:=h1.n;have:=h2.n;omega,λ o ho=>(OM.1 ho).elim (h1.sz o) (h2.sz o)⟩
def OpsN.l{l:List dz}(h:OpsN B al 24 l):OpsL B al l:=⟨h.ok,h.n,h.sz⟩
theorem OpsN.newF{nm data:ByteArray}{b:Bool}(h:¬ oB nm\/Fl B al data)(hd:data.size<=1099511627776):OpsN B al 4 (newF nm data b):=⟨HM h,bC.1,λ o ho=>Pb (bC.2 o ho) hd⟩
theorem OpsN.one{o:dz}(h:Lx o)(hd:o.c.size<=1099511627776):OpsN B al 1 [o]:=⟨.one h .nil,KP _,λ x hx=>by rw[OF.1 hx];exact hd⟩
def Mo:dz:=⟨4,ByteArray.mk #[77,65,78,73,70,69,83,84,46,110,101,119],ByteArray.mk #[77,65,78,73,70,69,83,84],ByteArray.empty⟩
def HT:Lx Mo:=⟨λ _=>(by show¬ (_:List UInt8)[0]? =some 83;decide),λ e=>(by rcases e with e|e<;>cases e)⟩
def kc:Lx (⟨6,ByteArray.empty,ByteArray.empty,ByteArray.empty⟩:dz):=ir (.inr (.inr J))
def Fm:¬ oB (ByteArray.mk #[77,65,78,73,70,69,83,84,46,110,101,119]):=by show¬ (_:List UInt8)[0]? =some 83;decide
def NF:OpsN B al 3 [⟨6,ByteArray.empty,ByteArray.empty,ByteArray.empty⟩,Mo,⟨6,ByteArray.empty,ByteArray.empty,ByteArray.empty⟩]:=⟨.one kc (.one HT (.one kc .nil)),KP _,λ o ho=>by
 simp only[LD,KY,OE]at ho;rcases ho with rfl|rfl|rfl<;>exact IN _⟩
def wP{nm s:ByteArray}(h:¬ oB nm)(hs:s.size<=1048585):OpsL B al [⟨2,nm,ByteArray.empty,s⟩,⟨3,nm,ByteArray.empty,ByteArray.empty⟩]:=
 ⟨.one ⟨λ e=>(by cases e),λ _=>.inl h⟩ (.one ⟨λ e=>(by cases e),λ _=>.inl h⟩ .nil),(by show(2:Nat)<=24;decide),λ o ho=>by
  simp only[LD,KY,OE]at ho;rcases ho with rfl|rfl
  ·show s.size<=_;omega
  ·exact IN _⟩
def KI{a b:List Nat}(h:Og a b)(e:a.length=b.length):a=b:=by
 rcases h with⟨t,rfl⟩|⟨t,rfl⟩
 ·have:t=[]:=OW (by rw[AT]at e;omega);rw[this,PF]
 ·have:t=[]:=OW (by rw[AT]at e;omega);rw[this,PF]
def wQ{nx jr:Int}{pl:List Pc}:(manO al nx jr pl).size<=34489:=by
 unfold manO;cases hb:stB al nx jr pl with
 |false=>exact IN _
 |true=>
  show(qx al nx jr (pl.map gI)).size<=_;have:=Fb (dE.1 hb);unfold qx;rw[aI,aX,k5];omega
def Fo{nx jr:Int}{pl:List Pc}(h:stOk al nx jr pl):dj (manO al nx jr pl) al nx jr (pl.map gI):=⟨pl,h,J,(tZ h).2⟩
def HU{s:ByteArray}{nx jr:Int}{ps:PV}{k b:Nat}(h:dj s al nx jr ps)(hb:b<256)(hk:k<s.size)(hne:(aF s)[k]? ≠some b):∀ al nx jr ps,¬ dj (strOf ((aF s).set k b)) al nx jr ps:=λ al' nx' jr' ps' h'=>by
 have hs:=ka h;obtain⟨_,h2,h3⟩:=HS hs (Es _) hb hk hne;have hs':=ka h';have ha:=h2 _ hs';have hl:(aF (strOf ((aF s).set k b))).length=(aF s).length:=by rw[aj,aI,Oz]
 rw[hs',hs,aX,aX]at hl;have he:=KI ha (by omega);rw[he]at hs';exact h3 (vL (hs.trans hs'.symm))
def Ae{α:Type}{P:α->Prop}{l:List α}{k:Nat}{x:α}(h:∀ y∈l,P y)(hx:P x):∀ y∈l.set k x,P y:=λ y hy=>by
 rcases Qf hy with q|q
 ·exact h y q
 ·rw[q];exact hx
