/-
 M22:conditions and expressions as they lie in memory,and mirrored functions on them:what a condition says of a token. No program in sight.
-/
import Derived.Test.YtcgidfgdbhihbaaGreatDoorM06
open List renaming length→I,take→J
open ByteArray renaming empty→wt,mk→ws
set_option linter.all false
open Go.Proofs.YtcgidfgdbhihbaaGreatDoor
open List hiding any lt
namespace Go.Kw
structure Cn where
 op:Int
 nm:ByteArray
 ar:ByteArray
 vl:ByteArray
 lb:ByteArray
 fo:Bool
 kv:SV
def aX:Enc Cn:=⟨7,λ x=>[.int .i64 x.op,.string x.nm,.string x.ar,.string x.vl,.string x.lb,.bool x.fo,x.kv.val],λ _=>Y,λ x u h=>by simp at h;rcases h with rfl|rfl|rfl|rfl|rfl|rfl|rfl<;>rfl⟩
inductive Cd where
 |lf (op:Int) (nm ar vl lb:ByteArray) (fo:Bool)
 |nt (a:Cd)
 |bi (op:Int) (a b:Cd)
namespace Cd
def op:Cd->Int
 |lf o _ _ _ _ _=>o
 |nt _=>6
 |bi o _ _=>o
def nm:Cd->ByteArray
 |lf _ x _ _ _ _=>x
 |_=>wt
def ar:Cd->ByteArray
 |lf _ _ x _ _ _=>x
 |_=>wt
def vl:Cd->ByteArray
 |lf _ _ _ x _ _=>x
 |_=>wt
def lb:Cd->ByteArray
 |lf _ _ _ _ x _=>x
 |_=>wt
def fo:Cd->Bool
 |lf _ _ _ _ _ x=>x
 |_=>false
def ks:Cd->List Cd
 |lf _ _ _ _ _ _=>[]
 |nt a=>[a]
 |bi _ a b=>[a,b]
def sz:Cd->Nat
 |lf _ _ _ _ _ _=>1
 |nt a=>a.sz+1
 |bi _ a b=>a.sz+b.sz+1
def dp:Cd->Nat
 |lf _ _ _ _ _ _=>0
 |nt a=>a.dp+1
 |bi _ a b=>max a.dp b.dp+1
def sm:Cd->Bool
 |lf o _ _ _ _ _=>decide (o=4)
 |nt a=>a.sm
 |bi _ a b=>a.sm||b.sm
def any:Cd:=lf 1 wt wt wt wt false
def ls:Cd->Cd
 |lf o a b c d e=>if o=4 then any else lf o a b c d e
 |nt a=>if a.sm then any else nt a.ls
 |bi o a b=>bi o a.ls b.ls
end Cd
def RdCd(w:World):Cd->Cn->Prop
 | .lf o a b c d e,x=>x=⟨o,a,b,c,d,e,x.kv⟩/\RdL w x.kv.val aX []
 | .nt a,x=>x=⟨6,wt,wt,wt,wt,false,x.kv⟩/\∃ y,RdL w x.kv.val aX [y]/\RdCd w a y
 | .bi o a b,x=>x=⟨o,wt,wt,wt,wt,false,x.kv⟩/\∃ y z,RdL w x.kv.val aX [y,z]/\RdCd w a y/\RdCd w b z
theorem RdCd.E{w w':World}(he:Ext w w'):∀ {c:Cd} {x:Cn},RdCd w c x->RdCd w' c x
 | .lf _ _ _ _ _ _,_,⟨h,k⟩=>⟨h,k.E he⟩
 | .nt _,_,⟨h,y,k,a⟩=>⟨h,y,k.E he,a.E he⟩
 | .bi _ _ _,_,⟨h,y,z,k,a,b⟩=>⟨h,y,z,k.E he,a.E he,b.E he⟩
theorem RdCd.head{w:World}{c:Cd}{x:Cn}(h:RdCd w c x):x=⟨c.op,c.nm,c.ar,c.vl,c.lb,c.fo,x.kv⟩:=by
 cases c<;>exact h.1
theorem RdCd.kids{w:World}{c:Cd}{x:Cn}(h:RdCd w c x):∃ l:List Cn,RdL w x.kv.val aX l/\I l=I c.ks/\∀ (i:Nat) y,l[i]? =some y->∃ k,c.ks[i]? =some k/\RdCd w k y/\k.sz<c.sz:=by
 cases c with
 |lf o a b c d e=>exact⟨[],h.2,Y,λ i y g=>by simp at g⟩
 |nt a=>
  obtain⟨_,y,p,g⟩:=h;refine⟨[y],p,Y,λ i z j=>?_⟩
  match i with
  |0=>simp at j;subst j;exact⟨a,Y,g,by show a.sz<a.sz+1;omega⟩
  |i+1=>simp at j
 |bi o a b=>
  obtain⟨_,y,z,p,g,j⟩:=h;refine⟨[y,z],p,Y,λ i u H=>?_⟩
  match i with
  |0=>simp at H;subst H;exact⟨a,Y,g,by show a.sz<a.sz+b.sz+1;omega⟩
  |1=>simp at H;subst H;exact⟨b,Y,j,by show b.sz<a.sz+b.sz+1;omega⟩
  |i+2=>simp at H
theorem Cd.oI(c:Cd):I c.ks<=2:=by cases c<;>simp[Cd.ks]
structure Rn where
 op:Int
 mn:Int
 mx:Int
 rv:SV
 kv:SV
def aS:Enc Rn:=⟨5,λ x=>[.int .i64 x.op,.int .i64 x.mn,.int .i64 x.mx,x.rv.val,x.kv.val],λ _=>Y,λ x u h=>by simp at h;rcases h with rfl|rfl|rfl|rfl|rfl<;>rfl⟩
def bG:Enc (Nat×Nat):=⟨2,λ x=>[.int .i32 (x.1:Int),.int .i32 (x.2:Int)],λ _=>Y,λ x u h=>by simp at h;rcases h with rfl|rfl<;>rfl⟩
inductive Rx where
 |st (a b:Nat)
 |c0
 |c2 (x y:Rx)
 |u2 (x y:Rx)
 |rp (mn mx:Int) (x:Rx)
def RdRx(w:World):Rx->Rn->Prop
 | .st a b,x=>x=⟨1,0,0,x.rv,x.kv⟩/\RdL w x.rv.val bG [(a,b)]/\RdL w x.kv.val aS []
 | .c0,x=>x=⟨2,0,0,x.rv,x.kv⟩/\RdL w x.rv.val bG []/\RdL w x.kv.val aS []
 | .c2 a b,x=>x=⟨2,0,0,x.rv,x.kv⟩/\RdL w x.rv.val bG []/\∃ y z,RdL w x.kv.val aS [y,z]/\RdRx w a y/\RdRx w b z
 | .u2 a b,x=>x=⟨3,0,0,x.rv,x.kv⟩/\RdL w x.rv.val bG []/\∃ y z,RdL w x.kv.val aS [y,z]/\RdRx w a y/\RdRx w b z
 | .rp m n a,x=>x=⟨4,m,n,x.rv,x.kv⟩/\RdL w x.rv.val bG []/\∃ y,RdL w x.kv.val aS [y]/\RdRx w a y
theorem RdRx.E{w w':World}(he:Ext w w'):∀ {c:Rx} {x:Rn},RdRx w c x->RdRx w' c x
 | .st _ _,_,⟨h,k,l⟩=>⟨h,k.E he,l.E he⟩
 | .c0,_,⟨h,k,l⟩=>⟨h,k.E he,l.E he⟩
 | .c2 _ _,_,⟨h,k,y,z,l,a,b⟩=>⟨h,k.E he,y,z,l.E he,a.E he,b.E he⟩
 | .u2 _ _,_,⟨h,k,y,z,l,a,b⟩=>⟨h,k.E he,y,z,l.E he,a.E he,b.E he⟩
 | .rp _ _ _,_,⟨h,k,y,l,a⟩=>⟨h,k.E he,y,l.E he,a.E he⟩
def jf(l:List UInt8):ByteArray:=ws l.toArray
def WB(c:Nat):Rx:=.st c c
structure ItX where
 k:Nat
 c:UInt8
 sf:Nat
def ItX.b0(i:ItX):List UInt8:=match i.k with
 |0=>[i.c]
 |1=>[46]
 |_=>[91,97,98,93]
def ItX.b(i:ItX):List UInt8:=i.b0++match i.sf with
 |0=>[]
 |1=>[42]
 |_=>[63]
def ItX.x0(i:ItX):Rx:=match i.k with
 |0=>WB i.c.toNat
 |1=>.st 0 1114111
 |_=>.st 97 98
def ItX.x(i:ItX):Rx:=match i.sf with
 |0=>i.x0
 |1=>.rp 0 (-1) i.x0
 |_=>.rp 0 1 i.x0
def zw:List ItX->Rx
 |[]=>.c0
 |[a]=>a.x
 |a::b::_=>.c2 a.x b.x
def KS:List (List ItX)->Rx
 |[]=>.c0
 |[a]=>zw a
 |a::b::_=>.u2 (zw a) (zw b)
def bC(l:List ItX):List UInt8:=l.flatMap ItX.b
def bU:List (List ItX)->List UInt8
 |[]=>[]
 |[a]=>bC a
 |a::b::_=>bC a++124::bC b
def lt(c:UInt8):ItX:=⟨0,c,0⟩
def Qn:List (List (List ItX)):=[[[lt 97]],[[lt 98]],[[lt 97,⟨1,0,1⟩]],[[⟨2,0,0⟩]],[[lt 88]],[[]],[[⟨0,99,2⟩]],[[lt 97],[lt 98]]]
def Dq:List (ByteArray×Rx):=Qn.map λ a=>(jf (bU a),KS a)
structure qz where
 fi:Nat
 la:Nat
 nl:Bool
structure TS where
 lv:List (Nat×Nat)
 fo:List Nat
def P0(b:Bool):qz:=⟨0,0,b⟩
def vL(fo:List Nat)(a b:Nat):List Nat:=fo.mapIdx λ i f=>if a/2^i%2^1=1 then f|||b else f
def dQ(fo:List Nat)(p q:qz):List Nat×qz:=(vL fo p.la q.fi,⟨if p.nl then p.fi|||q.fi else p.fi,if q.nl then q.la|||p.la else q.la,p.nl&&q.nl⟩)
def qA(f:TS->TS×qz)(z:TS×qz):TS×qz:=(⟨(f z.1).1.lv,(dQ (f z.1).1.fo z.2 (f z.1).2).1⟩,(dQ (f z.1).1.fo z.2 (f z.1).2).2)
def fZ(f:TS->TS×qz)(z:TS×qz):TS×qz:=((f z.1).1,⟨z.2.fi|||(f z.1).2.fi,z.2.la|||(f z.1).2.la,z.2.nl||(f z.1).2.nl⟩)
def X6(f:TS->TS×qz)(s:TS):TS×qz:=(⟨(f s).1.lv,vL (f s).1.fo (f s).2.la (f s).2.fi⟩,⟨(f s).2.fi,(f s).2.la,true⟩)
def j3(fo:List Nat)(p:qz):List Nat×qz:=((dQ fo p (P0 true)).1,⟨(dQ fo p (P0 true)).2.fi,(dQ fo p (P0 true)).2.la,true⟩)
def X7(f:TS->TS×qz)(s:TS):TS×qz:=(⟨(f s).1.lv,(dQ (j3 (f s).1.fo (f s).2).1 (P0 true) (j3 (f s).1.fo (f s).2).2).1⟩,(dQ (j3 (f s).1.fo (f s).2).1 (P0 true) (j3 (f s).1.fo (f s).2).2).2)
def bd:Rx->TS->TS×qz
 | .st a b,s=>(⟨s.lv++[(a,b)],s.fo++[0]⟩,⟨1*2^I s.lv%2^64,1*2^I s.lv%2^64,false⟩)
 | .c0,s=>(s,P0 true)
 | .c2 x y,s=>qA (bd y) (qA (bd x) (s,P0 true))
 | .u2 x y,s=>fZ (bd y) (fZ (bd x) (s,P0 false))
 | .rp _ n x,s=>if n= -1 then X6 (bd x) s else X7 (bd x) s
structure xD where
 lv:List (Nat×Nat)
 fs:Nat
 ls:Nat
 fo:List Nat
 nl:Bool
def nG(q:Rx):xD:=⟨(bd q ⟨[],[]⟩).1.lv,(bd q ⟨[],[]⟩).2.fi,(bd q ⟨[],[]⟩).2.la,(bd q ⟨[],[]⟩).1.fo,(bd q ⟨[],[]⟩).2.nl⟩
def nxU(t:xD)(s:Nat):Nat->Nat
 |0=>0
 |k+1=>if s/2^k%2^1=1 then nxU t s k|||(t.fo[k]?).getD 0 else nxU t s k
def nxM(t:xD)(s:Nat)(b:Bool):Nat:=if b then t.fs else nxU t s (I t.fo)
def stV(t:xD)(n:Nat)(v:Int)(s:Nat):Nat->Nat
 |0=>s
 |k+1=>if n/2^k%2^1=1/\((((t.lv[k]?).getD (1,0)).1:Nat):Int)<=v/\v<=((((t.lv[k]?).getD (1,0)).2:Nat):Int)then stV t n v s k|||2^k else stV t n v s k
def X8(t:xD)(n:Nat)(vs:List Int):Nat:=vs.foldl (λ s v=>stV t n v s (I t.lv)) 0
structure OkT(t:xD):Prop where
 lv:I t.lv<=2
 fo:I t.fo=I t.lv
 fs:t.fs<4
 ls:t.ls<4
 fx:∀ x∈t.fo,x<4
def X9{a b:Nat}(H:a<4)(d:b<4):a|||b<4:=Zz (n:=2) H d
theorem OkT.get{t:xD}(h:OkT t)(k:Nat):(t.fo[k]?).getD 0<4:=by
 cases H:t.fo[k]? with
 |none=>show 0<4;decide
 |some x=>exact h.fx x (Xs H)
theorem OkT.nxU{t:xD}(h:OkT t)(s:Nat):∀ k,nxU t s k<4
 |0=>by show 0<4;decide
 |k+1=>by
  have:=h.nxU s k;unfold Kw.nxU;split
  ·exact X9 this (h.get k)
  ·exact this
theorem OkT.nxM{t:xD}(h:OkT t)(s:Nat)(b:Bool):nxM t s b<4:=by
 unfold Kw.nxM;split
 ·exact h.fs
 ·exact h.nxU s _
theorem OkT.stV{t:xD}(h:OkT t)(n:Nat)(v:Int){s:Nat}(H:s<4):∀ k,k<=I t.lv->stV t n v s k<4
 |0,_=>H
 |k+1,hk=>by
  have:=h.stV n v H k O;have d:=h.lv;unfold Kw.stV;split
  ·exact X9 this (by rcases(show k=0\/k=1 by omega)with rfl|rfl<;>decide)
  ·exact this
def Qo(c:Int):Int:=if 65<=c/\c<=90 then c+32 else c
def OY(c:Int):List Int:=[Qo c,Qo c-32,Qo c-80].filter λ v=>decide (0<=v/\Qo v=Qo c)
def MK(t:xD)(d:Int->List Int):List Int->Nat->Bool->Bool
 |[],s,b=>b&&t.nl||decide (s&&&t.ls≠0)
 |c::r,s,b=>if X8 t (nxM t s b) (d c)=0 then false else MK t d r (X8 t (nxM t s b) (d c)) false
def Sw:∀ p∈Dq,OkT (nG p.2):=by
 intro p H;simp only[Dq,Qn,XZ,Zy,Xr,Xq,XA]at H;rcases H with rfl|rfl|rfl|rfl|rfl|rfl|rfl|rfl<;>exact⟨bl,bl,bl,bl,bl⟩
def yF(t:ByteArray):Rx:=((Dq.find? λ p=>p.1=t).map (·.2)).getD .c0
def V2(e v:ByteArray)(fo:Bool):Bool:=MK (nG (yF e)) (if fo then OY else λ c=>[c]) ((dh v.data.toList).map (·.r)) 0 true
def yG{t:ByteArray}(h:t∈Dq.map (·.1)):(t,yF t)∈Dq:=by
 simp only[Dq,Qn,XZ,Zy,Xr,Xq,XA]at h;rcases h with rfl|rfl|rfl|rfl|rfl|rfl|rfl|rfl<;>simp[yF,Dq,Qn,jf,WB,bU,bC,KS,zw,ItX.b,ItX.b0,ItX.x,ItX.x0,lt]
def OZ{a:Nat}(H:a<=1){v:ByteArray}(d:v∈Ba a):∀ u∈dh v.data.toList,32<=u.r/\u.r<127:=by
 have h:∀ a,a<=1->∀ v∈Ba a,qP v.data.toList=true:=by
  intro a H;rcases(show a=0\/a=1 by omega)with rfl|rfl<;>decide
 exact jt (h a H v d) _ 0 (KM _)
def C7(nm:ByteArray):Nat:=if nm=jf [116,97,103]then 1 else if nm=jf [102,101,97,116]then 2 else 0
def Dr(c:Co)(i a:Nat):ByteArray:=((c.tk[i]?).bind λ t=>t.ns[a]?).getD wt
def Bn(s f:ByteArray):Bool:=(lL s.data.toList s.size).2.any λ x=>decide (x=f.data.toList)
def EO(c:Co)(nm ar vl:ByteArray)(i:Nat):Bool:=c.rg.any λ r=>decide (r.nm=nm/\r.b<=(i:Int)/\(i:Int)<r.e)&&(decide (ar=wt)||r.ps.any λ p=>decide (p=(ar,vl)))
def lM(c:Co)(i:Nat):Cd->Bool
 | .lf o nm ar vl _ fo=>if o=1 then true else if o=2 then V2 vl (Dr c i (C7 nm)) fo else if o=3 then Bn (Dr c i 2) vl else EO c nm ar vl i
 | .nt a=> !lM c i a
 | .bi o a b=>if o=7 then lM c i a&&lM c i b else lM c i a||lM c i b
def Xa(o:Int)(nm ar vl lb:ByteArray)(fo:Bool):Prop:=
 lb=wt/\((o=1/\nm=wt/\ar=wt/\vl=wt/\fo=false)\/
  (o=2/\nm∈[wt,jf [119,111,114,100],jf [116,97,103]]/\ar=wt/\vl∈Dq.map (·.1))\/
  (o=3/\nm=jf [102,101,97,116]/\ar=wt/\vl∈[jf [112],jf [113]]/\fo=false)\/
  (o=5/\nm∈[jf [115],jf [110,112],jf [116]]/\fo=false/\((ar=wt/\vl=wt)\/(ar=jf [110]/\vl∈[jf [49],jf [50]]))))
def GdC(r:Bool):Cd->Prop
 | .lf o nm ar vl lb fo=>Xa o nm ar vl lb fo\/(r=true/\o=4)
 | .nt a=>GdC r a
 | .bi o a b=>(o=7\/o=8)/\GdC r a/\GdC r b
def yH:Xa 1 wt wt wt wt false:=⟨Y,.inl ⟨Y,Y,Y,Y,Y⟩⟩
theorem GdC.ls:∀ {c:Cd},GdC true c->GdC false c.ls
 | .lf o nm ar vl lb fo,h=>by
  unfold Cd.ls;split
  ·exact .inl yH
  ·rcases h with h|⟨_,h⟩
   ·exact .inl h
   ·contradiction
 | .nt a,h=>by
  unfold Cd.ls;split
  ·exact .inl yH
  ·exact GdC.ls (c:=a) h
 | .bi o a b,⟨h,x,y⟩=>⟨h,x.ls,y.ls⟩
def Cd.FI:∀ c:Cd,c.ls.sz<=c.sz
 | .lf _ _ _ _ _ _=>by unfold Cd.ls;split<;>simp[Cd.any,Cd.sz]
 | .nt a=>by
  have:=a.FI;unfold Cd.ls;split
  ·simp[Cd.any,Cd.sz]
  ·simp only[Cd.sz];omega
 | .bi _ a b=>by
  have:=a.FI;have:=b.FI;simp only[Cd.ls,Cd.sz];omega
def Cd.FK:∀ c:Cd,c.ls.dp<=c.dp
 | .lf _ _ _ _ _ _=>by unfold Cd.ls;split<;>simp[Cd.any,Cd.dp]
 | .nt a=>by
  have:=a.FK;unfold Cd.ls;split
  ·simp[Cd.any,Cd.dp]
  ·simp only[Cd.dp];omega
 | .bi _ a b=>by
  have:=a.FK;have:=b.FK;simp only[Cd.ls,Cd.dp];omega
def EP(n:Nat)(p:Nat->Bool):Bool:=(List.range n).any p
def ER{n:Nat}{p:Nat->Bool}{z:Int}(h:(∀ i,i<n->p i=false)/\z= -1\/∃ i:Nat,z=(i:Int)/\i<n/\p i=true/\∀ j,j<i->p j=false):decide (0<=z)=EP n p:=by
 unfold EP;rcases h with⟨h,rfl⟩|⟨i,rfl,d,H,_⟩
 ·rw[a0t,ZB];exact⟨λ k=>absurd (XR k) bl,λ⟨i,d,H⟩=>by rw[h i (Zt.1 d)]at H;cases H⟩
 ·rw[LW O,eq_comm,ZB];exact⟨i,Zt.2 d,H⟩
def Cd.kp(f:Cd->Bool)(c:Cd)(i:Nat):Bool:=((c.ks[i]?).map f).getD false
def Cd.My{f:Cd->Bool}{c k:Cd}{i:Nat}(h:c.ks[i]? =some k):c.kp f i=f k:=by unfold kp;rw[h];rfl
def GdC.VZ{r:Bool}{c:Cd}(h:GdC r c):c.sm=(decide (c.op=4)||EP (I c.ks) (c.kp Cd.sm)):=by
 unfold EP
 match c,h with
 | .lf o nm ar vl lb fo,_=>exact(Bool.or_false _).symm
 | .nt a,_=>simp[Cd.sm,Cd.op,Cd.ks,Cd.kp,YK]
 | .bi o a b,⟨h,_,_⟩=>rcases h with rfl|rfl<;>simp[Cd.sm,Cd.op,Cd.ks,Cd.kp,YK]
theorem GdC.MM{r:Bool}{c k:Cd}{i:Nat}(h:GdC r c)(d:c.ks[i]? =some k):GdC r k:=by
 have H:=Xs d
 match c,h with
 | .lf ..,_=>cases H
 | .nt a,h=>simp only[Cd.ks,XJ]at H;subst H;exact h
 | .bi o a b,⟨_,x,y⟩=>simp only[Cd.ks,Xr,Xq,XA]at H;rcases H with rfl|rfl<;>assumption
theorem Cd.FJ(c:Cd):c.sz=1+(c.ks.map Cd.sz).sum:=by cases c<;>simp[Cd.sz,Cd.ks]<;>omega
theorem Cd.sum_take{c q:Cd}{k:Nat}(h:c.ks[k]? =some q):1+((J k c.ks).map Cd.sz).sum+q.sz<=c.sz/\((J (k+1) c.ks).map Cd.sz).sum=((J k c.ks).map Cd.sz).sum+q.sz:=by
 have H:((J (k+1) c.ks).map Cd.sz).sum=((J k c.ks).map Cd.sz).sum+q.sz:=by
  rw[ZD,h];simp
 refine⟨?_,H⟩;have d:=If (λ l=>(l.map Cd.sz).sum) (XV (k+1) c.ks);simp only[Y0,a1z]at d;have:=c.FJ;omega
def Cd.TO{c k:Cd}{i:Nat}(d:c.ks[i]? =some k):k.dp+1<=c.dp:=by
 have H:=Xs d;cases c<;>simp only[Cd.ks,Xr,Xq,XA]at H
 ·subst H;simp[Cd.dp]
 ·rcases H with rfl|rfl<;>simp only[Cd.dp]<;>omega
theorem RdCd.ls{w:World}{c:Cd}{y:Cn}{l:List Cn}(D:GdC true c)(t:c.op≠4)(u:¬ (c.op=6/\c.sm=true))(j:y=⟨c.op,c.nm,c.ar,c.vl,c.lb,c.fo,y.kv⟩)(r:RdL w y.kv.val aX l)(g:I l=I c.ks)(d:∀ (i:Nat) z,l[i]? =some z->∃ k,c.ks[i]? =some k/\RdCd w k.ls z):RdCd w c.ls y:=by
 cases c with
 |lf o nm ar vl lb fo=>
  have q:l=[]:=a0l.1 g;subst q;unfold Cd.ls;rw[Xn (show¬ o=4 from t)];exact⟨j,r⟩
 |nt a=>
  obtain⟨z,rfl⟩:=ZE.1 g;obtain⟨k,H,p⟩:=d 0 z Y;cases H;unfold Cd.ls;rw[Xn (show¬ a.sm=true from λ h=>u ⟨Y,h⟩)];exact⟨j,z,r,p⟩
 |bi o a b=>
  match l,g with
  |[x,z],_=>
   obtain⟨k,H,A⟩:=d 0 x Y;cases H;obtain⟨k,H,p⟩:=d 1 z Y;cases H;exact⟨j,x,z,r,A,p⟩
def Sx(c:Co)(i:Nat){y:Cd}(h:y.op=6)(H:GdC false y):∃ k,y.ks[0]? =some k/\lM c i y= !lM c i k:=by
 match y,H with
 | .lf o nm ar vl lb fo,H=>
  rcases H with⟨_,g⟩|g
  ·simp only[Cd.op]at h;omega
  ·exact absurd g.1 bl
 | .nt a,_=>exact⟨a,Y,Y⟩
 | .bi o a b,⟨g,_,_⟩=>simp only[Cd.op]at h;omega
def P1(c:Co)(i:Nat){y:Cd}(h:y.op=7)(H:GdC false y):lM c i y= !EP (I y.ks) (y.kp λ k=> !lM c i k):=by
 unfold EP
 match y,H with
 | .lf o nm ar vl lb fo,H=>
  rcases H with⟨_,g⟩|g
  ·simp only[Cd.op]at h;omega
  ·exact absurd g.1 bl
 | .nt a,_=>simp only[Cd.op]at h;omega
 | .bi o a b,_=>simp only[Cd.op]at h;subst h;simp[lM,Cd.ks,Cd.kp,YK]
def Sy(c:Co)(i:Nat){y:Cd}(h:y.op=8)(H:GdC false y):lM c i y=EP (I y.ks) (y.kp (lM c i)):=by
 unfold EP
 match y,H with
 | .lf o nm ar vl lb fo,H=>
  rcases H with⟨_,g⟩|g
  ·simp only[Cd.op]at h;omega
  ·exact absurd g.1 bl
 | .nt a,_=>simp only[Cd.op]at h;omega
 | .bi o a b,_=>simp only[Cd.op]at h;subst h;simp[lM,Cd.ks,Cd.kp,YK]
def ES{c d:Co}(t:c.tk.map (·.ns)=d.tk.map (·.ns))(H:c.rg.map (λ r=>(r.nm,r.b,r.e,r.ps))=d.rg.map (λ r=>(r.nm,r.b,r.e,r.ps)))(i:Nat):∀ y:Cd,lM c i y=lM d i y
 | .lf o nm ar vl _ fo=>by
  have g:∀ a,Dr c i a=Dr d i a:=λ a=>by
   have:=If (·[i]?) t;simp only[XF]at this;unfold Dr;cases k:c.tk[i]? <;>cases hd:d.tk[i]? <;>rw[k,hd]at this<;>simp_all
  have j:EO c nm ar vl i=EO d nm ar vl i:=by
   have h:∀ l:List Iv,(l.any λ r=>decide (r.nm=nm/\r.b<=(i:Int)/\(i:Int)<r.e)&&(decide (ar=wt)||r.ps.any λ p=>decide (p=(ar,vl))))=(l.map (λ r=>(r.nm,r.b,r.e,r.ps))).any λ r=>decide (r.1=nm/\r.2.1<=(i:Int)/\(i:Int)<r.2.2.1)&&(decide (ar=wt)||r.2.2.2.any λ p=>decide (p=(ar,vl))):=λ l=>by rw[any_map];rfl
   unfold EO;rw[h,h,H]
  unfold lM;rw[g,g,j]
 | .nt a=>by unfold lM;rw[ES t H i a]
 | .bi o a b=>by unfold lM;rw[ES t H i a,ES t H i b]
def Cd.TZ{c:Cd}(h:c.op=4\/c.op=6/\c.sm=true)(d:GdC true c):c.ls= .any:=by
 match c,d with
 | .lf o nm ar vl lb fo,_=>
  have H:o=4:=by
   rcases h with h|⟨h,h2⟩
   ·exact h
   ·exact XR h2
  unfold Cd.ls;rw[Xp H]
 | .nt a,_=>
  rcases h with h|h
  ·exact absurd (show(6:Int)=4 from h) bl
  ·unfold Cd.ls;rw[Xp (show a.sm=true from h.2)]
 | .bi o a b,⟨g,_,_⟩=>
  rcases h with h|h
  ·have:o=4:=h;omega
  ·have:o=6:=h.1;omega
def LsC(w:World)(c:Cd)(L:List Cn)(k:Nat):Prop:=I L=k/\∀ (i:Nat) z,L[i]? =some z->∃ q,c.ks[i]? =some q/\RdCd w q.ls z
theorem LsC.nil(w:World)(c:Cd):LsC w c [] 0:=⟨Y,λ i z h=>by simp at h⟩
theorem LsC.snoc{w:World}{c q:Cd}{L:List Cn}{z:Cn}{k:Nat}(h:LsC w c L k)(g:c.ks[k]? =some q)(j:RdCd w q.ls z):LsC w c (L++[z]) (k+1):=by
 refine⟨by rw[AT,h.1];rfl,λ i y H=>?_⟩;rw[a13]at H;split at H
 ·exact h.2 i y H
 ·rename_i hi
  have l:=h.1;have d:i-I L=0:=by
   have:=(KC.1 H).1;simp only[KP]at this;omega
  rw[d]at H;simp only[getElem?_cons_zero,YB]at H;subst H;exact⟨q,by rw[show i=k by omega];exact g,j⟩
theorem LsC.all{w:World}{c:Cd}{L:List Cn}{k:Nat}(h:LsC w c L k):∀ (i:Nat) z,L[i]? =some z->∃ q,c.ks[i]? =some q/\RdCd w q.ls z:=h.2
def Ds{α:Type}(l:List α)(f:α->Bool)(i:Nat):Bool:=((l[i]?).map f).getD false
def uC{α:Type}{l:List α}{f:α->Bool}{i:Nat}{x:α}(h:l[i]? =some x):Ds l f i=f x:=by unfold Ds;rw[h];rfl
def KT{α:Type}(l:List α)(f:α->Bool):EP (I l) (Ds l f)=l.any f:=by
 unfold EP;rw[a0t,ZB,ZB];constructor
 ·rintro⟨i,H,h⟩;have d:=py (Zt.1 H);rw[uC d]at h;exact⟨_,Xs d,h⟩
 ·rintro⟨x,d,h⟩;obtain⟨i,H⟩:=Zh.1 d;exact⟨i,Zt.2 (KC.1 H).1,by rw[uC H];exact h⟩
def Bo:List ByteArray:=[jf [119,111,114,100],jf [116,97,103],jf [102,101,97,116]]
def Bp{nm:ByteArray}(h:nm=jf [102,101,97,116]):C7 nm=2:=by rw[h];decide
theorem RdCd.PV{w:World}{c:Cd}{x:Cn}(h:RdCd w c x):x.op=c.op/\x.nm=c.nm/\x.ar=c.ar/\x.vl=c.vl/\x.lb=c.lb/\x.fo=c.fo:=by
 have:=h.head;refine⟨?_,?_,?_,?_,?_,?_⟩<;>rw[this]
theorem ShX.of{w:World}{c:Cd}{x:Cn}(g:GdC false c)(h:RdCd w c x):(x.op=1\/x.op=4\/6<=x.op->x.nm=wt)/\(x.op≠5->x.ar=wt)/\(x.op=1\/x.op=4\/6<=x.op->x.vl=wt)/\x.lb=wt/\(x.op≠2->x.fo=false)/\(x.op=5->x.ar=wt->x.vl=wt)/\((x.op=1\/x.op=2\/x.op=3\/x.op=5)/\I c.ks=0\/x.op=6/\I c.ks=1\/(x.op=7\/x.op=8)/\I c.ks=2):=by
 obtain⟨E,q,r,t,u,y⟩:=h.PV;rw[E,q,r,t,u,y]
 match c,g with
 | .lf o nm ar vl lb fo,g=>
  obtain⟨l,g⟩:=g.resolve_right (λ k=>by cases k.1);simp only[Cd.op,Cd.nm,Cd.ar,Cd.vl,Cd.lb,Cd.fo,Cd.ks];rcases g with⟨H,j,d,i,p⟩|⟨H,j,d,i⟩|⟨H,j,d,i,p⟩|⟨H,j,d,i⟩
  ·exact⟨λ _=>j,λ _=>d,λ _=>i,l,λ _=>p,λ _ _=>i,.inl ⟨.inl H,Y⟩⟩
  ·exact⟨λ k=>by omega,λ _=>d,λ k=>by omega,l,λ k=>absurd H k,λ k=>by omega,.inl ⟨.inr (.inl H),Y⟩⟩
  ·exact⟨λ k=>by omega,λ _=>d,λ k=>by omega,l,λ _=>p,λ k=>by omega,.inl ⟨.inr (.inr (.inl H)),Y⟩⟩
  ·refine⟨λ k=>by omega,λ k=>absurd H k,λ k=>by omega,l,λ _=>d,λ _ k=>?_,.inl ⟨.inr (.inr (.inr H)),Y⟩⟩;rcases i with⟨_,h⟩|⟨h,_⟩
   ·exact h
   ·rw[h]at k;exact absurd (If ByteArray.size k) bl
 | .nt a,_=>exact⟨λ _=>Y,λ _=>Y,λ _=>Y,Y,λ _=>Y,λ _ _=>Y,.inr (.inl ⟨Y,Y⟩)⟩
 | .bi o a b,g=>exact⟨λ _=>Y,λ _=>Y,λ _=>Y,Y,λ _=>Y,λ _ _=>Y,.inr (.inr ⟨g.1,Y⟩)⟩
theorem NmX.of{w:World}{c:Cd}{x:Cn}(g:GdC false c)(h:RdCd w c x):(x.op=2->x.nm=wt\/x.nm∈Bo)/\(x.op=3->x.nm∈Bo)/\(x.op=5->bF x.nm=true/\(x.ar=wt\/bF x.ar=true))/\x.op≠4:=by
 obtain⟨E,d,i,j,l,p⟩:=h.PV;rw[E,d,i]
 match c,g with
 | .lf o nm ar vl lb fo,g=>
  obtain⟨q,g⟩:=g.resolve_right (λ k=>by cases k.1);simp only[Cd.op,Cd.nm,Cd.ar];rcases g with⟨H,_⟩|⟨H,h1,_⟩|⟨H,h1,_⟩|⟨H,h1,_,h3⟩
  ·exact⟨λ k=>by omega,λ k=>by omega,λ k=>by omega,O⟩
  ·refine⟨λ _=>?_,λ k=>by omega,λ k=>by omega,O⟩;rcases Xr.1 h1 with h|h
   ·exact .inl h
   ·have h:nm=jf [119,111,114,100]\/nm=jf [116,97,103]:=ra
    rcases h with rfl|rfl<;>simp[Bo]
  ·exact⟨λ k=>by omega,λ _=>h1▸(by simp[Bo]),λ k=>by omega,O⟩
  ·refine⟨λ k=>by omega,λ k=>by omega,λ _=>⟨(by decide:∀ s∈[jf [115],jf [110,112],jf [116]],bF s=true) _ h1,?_⟩,O⟩;rcases h3 with⟨h,_⟩|⟨h,_⟩
   ·exact .inl h
   ·exact .inr (h▸bl)
 | .nt a,_=>exact⟨λ(k:(6:Int)=2)=>by omega,λ(k:(6:Int)=3)=>by omega,λ(k:(6:Int)=5)=>by omega,show(6:Int)≠4 by omega⟩
 | .bi o a b,g=>
  have:=g.1;exact⟨λ(k:o=2)=>by omega,λ(k:o=3)=>by omega,λ(k:o=5)=>by omega,show o≠4 by omega⟩
def Qp(s:ByteArray):Prop:=s=jf [112]\/s=jf [113]
theorem CkX.of{w:World}{c:Cd}{x:Cn}(g:GdC false c)(h:RdCd w c x):(x.op=2->x.vl∈Dq.map (·.1))/\(x.op=3->x.vl≠wt/\Qp x.vl/\jJ x.vl=true)/\(x.op=5->jJ x.vl=true)/\(x.op=3->x.nm=jf [102,101,97,116]):=by
 obtain⟨E,i,l,j,p,q⟩:=h.PV;rw[E,i,j]
 match c,g with
 | .lf o nm ar vl lb fo,g=>
  obtain⟨r,g⟩:=g.resolve_right (λ k=>by cases k.1);simp only[Cd.op,Cd.nm,Cd.vl];rcases g with⟨d,_⟩|⟨d,h1,_,H⟩|⟨d,h1,_,H,_⟩|⟨d,h1,_,H⟩
  ·exact⟨λ k=>by omega,λ k=>by omega,λ k=>by omega,λ k=>by omega⟩
  ·exact⟨λ _=>H,λ k=>by omega,λ k=>by omega,λ k=>by omega⟩
  ·refine⟨λ k=>by omega,λ _=>?_,λ k=>by omega,λ _=>h1⟩;have H:vl=jf [112]\/vl=jf [113]:=te
   rcases H with rfl|rfl
   ·exact⟨bl,.inl Y,fP bl bl⟩
   ·exact⟨bl,.inr Y,fP bl bl⟩
  ·refine⟨λ k=>by omega,λ k=>by omega,λ _=>?_,λ k=>by omega⟩;rcases H with⟨_,rfl⟩|⟨_,H⟩
   ·exact fP bl bl
   ·have H:vl=jf [49]\/vl=jf [50]:=te
    rcases H with rfl|rfl<;>exact fP bl bl
 | .nt a,_=>exact⟨λ(k:(6:Int)=2)=>by omega,λ(k:(6:Int)=3)=>by omega,λ(k:(6:Int)=5)=>by omega,λ(k:(6:Int)=3)=>by omega⟩
 | .bi o a b,g=>
  have:=g.1;exact⟨λ(k:o=2)=>by omega,λ(k:o=3)=>by omega,λ(k:o=5)=>by omega,λ(k:o=3)=>by omega⟩
def lookE.S{id i:Nat}{d:aA->World->Prop}{X:List (Nat×(aA->World->Prop))}{L:aA}{w:World}(h1:(i==id)=false)(h:lookE X id L w):lookE ((i,d)::X) id L w:=by
 rw[bW h1];exact h
theorem lookE.Z{id:Nat}{M:aA->World->Prop}{X:List (Nat×(aA->World->Prop))}{L:aA}{w:World}(h:M L w):lookE ((id,M)::X) id L w:=by
 rw[cS,Xp Y];exact h
def Bq{α:Type}{l:List α}{f:α->Bool}{k:Nat}{x:α}(h:∀ i,i<k->Ds l f i=false)(g:l[k]? =some x)(d:f x=false):∀ i,i<k+1->Ds l f i=false:=λ i j=>by
 rcases XI i k with H|H
 ·exact h i H
 ·rw[show i=k by omega,uC g];exact d
def KU{α:Type}{l:List α}{f:α->Bool}(h:∀ i,i<I l->Ds l f i=false):l.any f=false:=by
 rw[<-KT];unfold EP;rw[any_eq_false];intro i H;rw[h i (Zt.1 H)];decide
def ET{α:Type}{l:List α}{f:α->Bool}{k:Nat}{x:α}(d:l[k]? =some x)(H:f x=true):l.any f=true:=ZB.2 ⟨x,Xs d,H⟩
def Dt{a b:ByteArray}(h:a.data.toList=b.data.toList):a=b:=by
 cases a with|mk a=>cases b with|mk b=>cases a;cases b;simp at h;rw[h]
def Sz{s f:ByteArray}{L:List ByteArray}(h:L.map (·.data.toList)=(lL s.data.toList s.size).2):(L.any λ x=>decide (x=f))=Bn s f:=by
 unfold Bn;rw[<-h,any_map];congr 1;funext x;exact Ym.2 ⟨λ e=>by rw[e],Dt⟩
def V3(nm ar vl:ByteArray)(i:Nat)(r:Iv):Bool:=decide (r.nm=nm/\r.b<=(i:Int)/\(i:Int)<r.e)&&(decide (ar=wt)||r.ps.any λ p=>decide (p=(ar,vl)))
def KX{c:Co}{m i a:Nat}(o:OkC m c)(H:c.at_=cR)(k:i<I c.tk)(p:a<3):∃ x y,c.tk[i]? =some x/\x.ns[a]? =some y/\Dr c i a=y/\y∈Ba a:=by
 have d:c.tk[i]? =some c.tk[i]:=py k;have j:=Xs d;have l:=(o.tk _ j).1;rw[H]at l;have l:c.tk[i].ns.length=3:=l;have g:c.tk[i].ns[a]? =some c.tk[i].ns[a]:=py O;exact⟨_,_,d,g,by unfold Dr;rw[d];show(c.tk[i].ns[a]?).getD _=_;rw[g];rfl,o.voc _ j a _ g⟩
theorem HdX.of{w:World}{y:Cd}{x:Cn}(g:GdC false y)(h:RdCd w y x)(c:Co)(i:Nat):x.op=y.op/\(x.op=1->lM c i y=true)/\(x.op=2->lM c i y=V2 x.vl (Dr c i (C7 x.nm)) x.fo/\C7 x.nm<2)/\(x.op=3->lM c i y=Bn (Dr c i 2) x.vl)/\(x.op=5->lM c i y=c.rg.any (V3 x.nm x.ar x.vl i)):=by
 obtain⟨E,j,l,p,r,q⟩:=h.PV;refine⟨E,?_⟩;rw[E,j,l,p,q]
 match y,g with
 | .lf o nm ar vl lb fo,g=>
  obtain⟨t,g⟩:=g.resolve_right (λ k=>by cases k.1);simp only[Cd.op,Cd.nm,Cd.ar,Cd.vl,Cd.fo,lM];refine⟨λ k=>by rw[Xp k],λ k=>?_,λ k=>by rw[Xn O,Xn O,Xp k],λ k=>by rw[Xn O,Xn O,Xn O];rfl⟩;rw[Xn O,Xp k];rcases g with⟨d,_⟩|⟨d,H,_⟩|⟨d,_⟩|⟨d,_⟩
  ·omega
  ·refine⟨Y,?_⟩;have H:nm=wt\/nm=jf [119,111,114,100]\/nm=jf [116,97,103]:=te
   rcases H with rfl|rfl|rfl<;>decide
  ·omega
  ·omega
 | .nt a,_=>exact⟨λ(k:(6:Int)=1)=>by omega,λ(k:(6:Int)=2)=>by omega,λ(k:(6:Int)=3)=>by omega,λ(k:(6:Int)=5)=>by omega⟩
 | .bi o a b,g=>
  have:=g.1;exact⟨λ(k:o=1)=>by omega,λ(k:o=2)=>by omega,λ(k:o=3)=>by omega,λ(k:o=5)=>by omega⟩
def GdC.Xl{y:Cd}(g:GdC false y):y.op=1\/y.op=2\/y.op=3\/y.op=5\/y.op=6\/y.op=7\/y.op=8:=by
 match y,g with
 | .lf o nm ar vl lb fo,g=>
  obtain⟨l,g⟩:=g.resolve_right (λ k=>by cases k.1);show o=1\/_;rcases g with⟨H,_⟩|⟨H,_⟩|⟨H,_⟩|⟨H,_⟩<;>simp[Cd.op,H]
 | .nt a,_=>simp[Cd.op]
 | .bi o a b,g=>rcases g.1 with h|h<;>simp[Cd.op,h]
section
variable {P:Program} {n:Nat} {L:aA} {w:World} {d:Option Nat} {ty:TypeId} {pos:String} {af:Array Edge} {g:Option (Nat×Bool)}
def Ev.HR{x y z u:Operand}{f:FuncId}{a b c e:Value}(j:aM L x=some a)(k:aM L y=some b)(l:aM L z=some c)(i:aM L u=some e):Ev P n L w ⟨d,.makeFunc (.func f) #[] #[x,y,z,u],ty,pos,af,g⟩ (.func (.func f) #[] #[a,b,c,e]):=.of λ ρ H=>by
 simp[execOp,H j,H k,H l,H i,Instr.makeFunc,go_sem]
end
def KY{c:Co}{m i a:Nat}(o:OkC m c)(H:c.at_=cR)(j:i<I c.tk)(g:a<2):(∀ u∈dh (Dr c i a).data.toList,32<=u.r/\u.r<127)/\(Dr c i a).size<=1000:=by
 obtain⟨x,y,_,_,e,d⟩:=KX o H j (show a<3 by omega);rw[e];refine⟨OZ O d,?_⟩;have h:∀ a<2,∀ n∈(Ba a).map (·.size),n<=1000:=bl
 exact h a g _ (Ye d)
def SA{c:Co}{m i a:Nat}(o:OkC m c)(H:c.at_=cR)(g:i<I c.tk)(d:a=2):uf (Dr c i a):=by
 subst d;obtain⟨x,y,_,_,e,j⟩:=KX o H g (show 2<3 by omega);rw[e];exact xv _ j
def jg(c:Co)(y:Cd)(k:Nat):List Nat:=(List.range k).filter λ i=>lM c i y
def KZ{c:Co}{y:Cd}{k:Nat}(h:lM c k y=true):jg c y k++[k]=jg c y (k+1):=by unfold jg;rw[YK,YF,a0n,Xp h];rfl
def P2{c:Co}{y:Cd}{k:Nat}(h:lM c k y=false):jg c y k=jg c y (k+1):=by unfold jg;rw[YK,YF,a0n,Xn (by rw[h];decide),filter_nil,Yr]
def uD(c:Co)(y:Cd)(k:Nat):I (jg c y k)<=k:=by unfold jg;exact XL (a0f _ _) (by rw[a0r];exact KM _)
def SB{c d:Co}(t:c.tk.map (·.ns)=d.tk.map (·.ns))(H:c.rg.map (λ r=>(r.nm,r.b,r.e,r.ps))=d.rg.map (λ r=>(r.nm,r.b,r.e,r.ps)))(y:Cd)(k:Nat):jg c y k=jg d y k:=by
 unfold jg;exact filter_congr λ i _=>ES t H i y
