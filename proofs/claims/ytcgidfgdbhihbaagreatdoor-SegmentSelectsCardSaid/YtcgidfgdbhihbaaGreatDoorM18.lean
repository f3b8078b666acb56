/-
 M18:expressions read from their texts,and checked:places in a text,items,trees. No program in sight.
-/
import Derived.Test.YtcgidfgdbhihbaaGreatDoorM22
open List renaming length→I,take→J,drop→ww
set_option linter.all false
open Go.Proofs.YtcgidfgdbhihbaaGreatDoor
open List
namespace Go.Kw
def nF:List UInt8->Int
 |[]=> -1
 |b::_=>((b.toNat:Nat):Int)
structure AtP(s:ByteArray)(i:Nat)(r:List UInt8):Prop where
 d:ww i s.data.toList=r
 asc:qP s.data.toList=true
 le:i<=s.size
 n:s.size<=200
def AtP.len{s:ByteArray}{i:Nat}{r:List UInt8}(h:AtP s i r):i+I r=s.size:=by
 have:=If List.length h.d;rw[XD]at this;have H:I s.data.toList=s.size:=rfl;have:=h.le;omega
def AtP.next{s:ByteArray}{i:Nat}{b:UInt8}{r:List UInt8}(h:AtP s i (b::r)):AtP s (i+1) r:=by
 have l:=h.len;simp only[No]at l;exact⟨by rw[<-a2v,h.d];rfl,h.asc,O,h.n⟩
theorem AtP.get{s:ByteArray}{i:Nat}{b:UInt8}{r:List UInt8}(h:AtP s i (b::r)):s.data.toList[i]? =some b:=by
 have:=If (·[0]?) h.d;simpa[YI]using this
theorem AtP.b{s:ByteArray}{i:Nat}{b:UInt8}{r:List UInt8}(h:AtP s i (b::r)):32<=b.toNat/\b.toNat<127/\i<s.size:=by
 have:=XR (Y6.1 h.asc b (Xs h.get));have l:=h.len;simp only[No]at l;exact⟨this.1,this.2,O⟩
def AtP.cons{s:ByteArray}{i:Nat}{r:List UInt8}(h:AtP s i r)(H:¬ i=s.size):∃ b R,r=b::R:=by
 have l:=h.len
 match r with
 |[]=>simp at l;omega
 |b::R=>exact⟨b,R,Y⟩
theorem AtP.nil{s:ByteArray}{i:Nat}{r:List UInt8}(h:AtP s i r)(H:i=s.size):r=[]:=by
 have l:=h.len;exact a0l.1 O
theorem AtP.E{s:ByteArray}{i:Nat}{r:List UInt8}(h:AtP s i r):(s.extract i s.size).data.toList=r:=by
 have e:(s.extract i s.size).data.toList=J (s.size-i) (ww i s.data.toList):=by simp[ByteArray.data_extract,a1v,extract_eq_take_drop]
 rw[e,Xx (by rw[XD];have:I s.data.toList=s.size:=rfl;omega)];exact h.d
theorem AtP.app{s:ByteArray}{i:Nat}:∀ {a r:List UInt8},AtP s i (a++r)->AtP s (i+I a) r
 |[],_,h=>h
 |b::a,r,h=>by
  have:=AtP.app (a:=a) (AtP.next h);rw[No,show i+(I a+1)=i+1+I a by omega];exact this
def okLt(c:UInt8):Prop:=c=97\/c=98\/c=99\/c=88
structure OkI(t:ItX):Prop where
 k:t.k=0/\okLt t.c\/t.k=1\/t.k=2
 sf:t.sf=0\/t.sf=1\/t.sf=2
def ItX.s(i:ItX):List UInt8:=match i.sf with
 |0=>[]
 |1=>[42]
 |_=>[63]
theorem ItX.Mt(i:ItX):i.b=i.b0++i.s:=rfl
def okLt.n{c:UInt8}(h:okLt c):c.toNat=97\/c.toNat=98\/c.toNat=99\/c.toNat=88:=by
 rcases h with rfl|rfl|rfl|rfl<;>decide
def OkI.hd{t:ItX}(h:OkI t)(r:List UInt8):0<=nF (t.b++r)/\nF (t.b++r)≠124/\nF (t.b++r)≠41/\nF (t.b++r)≠42/\nF (t.b++r)≠43/\nF (t.b++r)≠63/\nF (t.b++r)≠123:=by
 obtain⟨k,c,d⟩:=t;rw[ItX.Mt];rcases h.k with⟨H,g⟩|H|H<;>simp only at H<;>subst H
 ·have i:c.toNat=97\/c.toNat=98\/c.toNat=99\/c.toNat=88:=okLt.n g;have e:nF (ItX.b0 ⟨0,c,d⟩++ItX.s ⟨0,c,d⟩++r)=((c.toNat:Nat):Int):=rfl;rw[e];refine⟨?_,?_,?_,?_,?_,?_,?_⟩<;>omega
 ·simp[ItX.b0,nF]
 ·simp[ItX.b0,nF]
def xC(r:List UInt8):Prop:=nF r≠42/\nF r≠43/\nF r≠63/\nF r≠123
def Hv{r:List UInt8}(h:r=[]\/nF r=124):xC r:=by
 rcases h with rfl|h
 ·exact⟨bl,bl,bl,bl⟩
 ·unfold xC;omega
def KB{l:List ItX}{k:Nat}{r:List UInt8}(H:∀ t∈l,OkI t)(d:r=[]\/nF r=124):xC (bC (ww k l)++r):=by
 match hd:ww k l with
 |[]=>exact Hv d
 |t::m=>
  have g:t∈l:=Yf (i:=k) (by rw[hd];exact Yp);have h:=(H t g).hd (bC m++r);rw[<-KW]at h;exact⟨h.2.2.2.1,h.2.2.2.2.1,h.2.2.2.2.2.1,h.2.2.2.2.2.2⟩
def EJ{l:List ItX}{k:Nat}{t:ItX}{r:List UInt8}(h:l[k]? =some t):bC (ww k l)++r=t.b++(bC (ww (k+1) l)++r):=by
 obtain⟨H,rfl⟩:=KC.1 h;rw[Yl H,<-KW];rfl
def OK{l:List ItX}{k:Nat}{t:ItX}(h:l[k]? =some t):bC (J (k+1) l)=bC (J k l)++t.b:=by
 unfold bC;rw[ZD,h,a0q];simp
def US{l:List ItX}{k:Nat}{r:List UInt8}(j:∀ t∈l,OkI t)(d:r=[]\/nF r=124)(o:k<=I l):((0<=nF (bC (ww k l)++r)/\nF (bC (ww k l)++r)≠124)/\nF (bC (ww k l)++r)≠41)↔k<I l:=by
 rcases XI k (I l) with h|h
 ·obtain⟨t,g⟩:=ut l k h;rw[EJ g];have:=(j t (Xs g)).hd (bC (ww (k+1) l)++r);exact⟨λ _=>h,λ _=>⟨⟨this.1,this.2.1⟩,this.2.2.1⟩⟩
 ·rw[a2p h];refine⟨λ⟨⟨i,H⟩,_⟩=>?_,λ H=>absurd H O⟩;rcases d with rfl|d
  ·exact absurd i bl
  ·exact absurd d H
def Rx.ks:Rx->List Rx
 | .st _ _=>[]
 | .c0=>[]
 | .c2 x y=>[x,y]
 | .u2 x y=>[x,y]
 | .rp _ _ x=>[x]
def Rx.op:Rx->Int
 | .st _ _=>1
 | .c0=>2
 | .c2 _ _=>2
 | .u2 _ _=>3
 | .rp _ _ _=>4
def RxL(w:World)(l:List Rx)(L:List Rn):Prop:=I L=I l/\∀ (i:Nat) z,L[i]? =some z->∃ q,l[i]? =some q/\RdRx w q z
theorem RxL.nil(w:World):RxL w [] []:=⟨Y,λ i z h=>by simp at h⟩
theorem RxL.snoc{w:World}{l:List Rx}{L:List Rn}{q:Rx}{z:Rn}(h:RxL w l L)(g:RdRx w q z):RxL w (l++[q]) (L++[z]):=by
 refine⟨by rw[AT,AT,h.1];rfl,λ i y H=>?_⟩;have j:=h.1;rw[a13]at H⊢;split at H
 ·rename_i hi
  rw[Xp O];exact h.2 i y H
 ·rename_i hi
  rw[Xn O,show i-I l=i-I L by omega];have d:i-I L=0:=by
   have:=(KC.1 H).1;simp only[KP]at this;omega
  rw[d]at H⊢;simp only[getElem?_cons_zero,YB]at H;subst H;exact⟨q,Y,g⟩
theorem RdRx.head{w:World}{q:Rx}{x:Rn}(h:RdRx w q x):x.op=q.op/\(∃ r,RdL w x.rv.val bG r/\I r<=1/\(∀ a b,q= .st a b->r=[(a,b)])/\((∀ a b,q≠.st a b)->r=[]))/\(∀ m n y,q= .rp m n y->x.mn=m/\x.mx=n)/\((∀ m n y,q≠.rp m n y)->x.mn=0/\x.mx=0):=by
 match q,h with
 | .st a b,⟨h,k,l⟩=>exact⟨a3o,⟨_,k,KM _,λ A d e=>(by cases e;rfl),λ e=>absurd Y (e a b)⟩,λ _ _ _ e=>a2I,λ _=>by rw[h];exact⟨Y,Y⟩⟩
 | .c0,⟨h,k,l⟩=>exact⟨a3o,⟨_,k,KD _,λ _ _ e=>a2I,λ _=>Y⟩,λ _ _ _ e=>a2I,λ _=>by rw[h];exact⟨Y,Y⟩⟩
 | .c2 a b,⟨h,k,_⟩=>exact⟨a3o,⟨_,k,KD _,λ _ _ e=>a2I,λ _=>Y⟩,λ _ _ _ e=>a2I,λ _=>by rw[h];exact⟨Y,Y⟩⟩
 | .u2 a b,⟨h,k,_⟩=>exact⟨a3o,⟨_,k,KD _,λ _ _ e=>a2I,λ _=>Y⟩,λ _ _ _ e=>a2I,λ _=>by rw[h];exact⟨Y,Y⟩⟩
 | .rp m n a,⟨h,k,_⟩=>exact⟨a3o,⟨_,k,KD _,λ _ _ e=>a2I,λ _=>Y⟩,λ g N i e=>(by cases e;rw[h];exact⟨Y,Y⟩),λ e=>absurd Y (e m n a)⟩
theorem RdRx.kids{w:World}{q:Rx}{x:Rn}(h:RdRx w q x):∃ L,RdL w x.kv.val aS L/\RxL w q.ks L:=by
 match q,h with
 | .st a b,⟨_,_,l⟩=>exact⟨[],l,RxL.nil w⟩
 | .c0,⟨_,_,l⟩=>exact⟨[],l,RxL.nil w⟩
 | .c2 a b,⟨_,_,y,z,l,hy,hz⟩=>exact⟨[y,z],l,((RxL.nil w).snoc hy).snoc hz⟩
 | .u2 a b,⟨_,_,y,z,l,hy,hz⟩=>exact⟨[y,z],l,((RxL.nil w).snoc hy).snoc hz⟩
 | .rp m n a,⟨_,_,y,l,hy⟩=>exact⟨[y],l,(RxL.nil w).snoc hy⟩
theorem RxL.one{w:World}{q:Rx}{L:List Rn}(h:RxL w [q] L):∃ y,L=[y]/\RdRx w q y:=by
 obtain⟨y,rfl⟩:=ZE.1 h.1;obtain⟨Q,e,H⟩:=h.2 0 y Y;cases e;exact⟨y,Y,H⟩
theorem RxL.two{w:World}{a b:Rx}{L:List Rn}(h:RxL w [a,b] L):∃ y z,L=[y,z]/\RdRx w a y/\RdRx w b z:=by
 match L,h with
 |[y,z],h=>
  obtain⟨q,e,H⟩:=h.2 0 y Y;cases e;obtain⟨q,e,d⟩:=h.2 1 z Y;cases e;exact⟨y,z,Y,H,d⟩
 |[],h=>cases h.1
 |[_],h=>cases h.1
 |_::_::_::_,h=>cases h.1
def Si{w:World}{l:List ItX}{L:List Rn}{sv R:SV}(g:I l<=2)(h1:I l≠1)(h:RxL w (l.map ItX.x) L)(k:RdL w sv.val aS L)(r:RdL w R.val bG []):RdRx w (zw l) ⟨2,0,0,R,sv⟩:=by
 match l,g,h1 with
 |[],_,_=>
  have:L=[]:=a0l.1 h.1;subst this;exact⟨Y,r,k⟩
 |[a],_,h=>exact absurd Y h
 |[a,b],_,_=>
  obtain⟨y,z,rfl,H,d⟩:=h.two;exact⟨Y,r,y,z,k,H,d⟩
def X3{w:World}{l:List ItX}{L:List Rn}{z:Rn}(h1:I l=1)(h:RxL w (l.map ItX.x) L)(d:L[0]? =some z):RdRx w (zw l) z:=by
 obtain⟨a,rfl⟩:=ZE.1 h1;obtain⟨y,rfl,H⟩:=RxL.one h;cases d;exact H
def Sj{w:World}{l:List (List ItX)}{L:List Rn}{sv r:SV}(g:I l=2)(h:RxL w (l.map zw) L)(k:RdL w sv.val aS L)(i:RdL w r.val bG []):RdRx w (KS l) ⟨3,0,0,r,sv⟩:=by
 match l,g with
 |[a,b],_=>
  obtain⟨y,z,rfl,H,d⟩:=RxL.two h;exact⟨Y,i,y,z,k,H,d⟩
def X4{w:World}{l:List (List ItX)}{L:List Rn}{z:Rn}(h1:I l=1)(h:RxL w (l.map zw) L)(d:L[0]? =some z):RdRx w (KS l) z:=by
 obtain⟨a,rfl⟩:=ZE.1 h1;obtain⟨y,rfl,H⟩:=RxL.one h;cases d;exact H
def mf:List (Nat×Nat):=[(97,97),(98,98)]
def wg(r:List UInt8):List UInt8:=97::98::93::r
def Sk(r:List UInt8){k:Nat}(H:k<2):∃ b R,ww k (wg r)=b::R/\okLt b/\nF R≠45/\J k mf++[(b.toNat,b.toNat)]=J (k+1) mf/\ww (k+1) (wg r)=R:=by
 rcases(show k=0\/k=1 by omega)with rfl|rfl
 ·exact⟨97,98::93::r,Y,.inl Y,(by decide:(98:Int)≠45),Y,Y⟩
 ·exact⟨98,93::r,Y,.inr (.inl Y),(by decide:(93:Int)≠45),Y,Y⟩
def KE(r:List UInt8){k:Nat}(H:k<=2):(I (J k mf)=0\/nF (ww k (wg r))≠93)↔k<2:=by
 rcases(show k=0\/k=1\/k=2 by omega)with rfl|rfl|rfl
 ·exact⟨λ _=>by omega,λ _=>.inl Y⟩
 ·exact⟨λ _=>by omega,λ _=>.inr (by decide:(98:Int)≠93)⟩
 ·exact⟨λ h=>by rcases h with h|h;exact absurd h bl;exact absurd Y h,λ h=>by omega⟩
def Uh:Nat->List (Nat×Nat)
 |0=>[]
 |1=>[(97,97)]
 |_=>[(97,98)]
def AtP.drop{s:ByteArray}{i k:Nat}{r:List UInt8}(h:AtP s i r)(H:k<=I r):AtP s (i+k) (ww k r):=by
 have l:=h.len;exact⟨by rw[<-h.d,a2v],h.asc,O,h.n⟩
def UT(s:ByteArray)(i:Nat)(t:ItX)(r:List UInt8)(j:Nat)(q:Rx)(R:List UInt8)(m:Nat):Prop:=AtP s j R/\((m=0/\R=r/\q=t.x/\j=i+I t.b)\/(m=1/\t.sf≠0/\R=t.s++r/\q=t.x0/\j=i+I t.b0))
def OL{s:ByteArray}{i:Nat}{t:ItX}{r:List UInt8}(h:AtP s i (t.b++r)):∃ m,UT s i t r (i+I t.b0) t.x0 (t.s++r) m:=by
 rw[ItX.Mt,KW]at h;have d:=h.app;by_cases H:t.sf=0
 ·refine⟨0,d,.inl ⟨Y,?_,?_,?_⟩⟩
  ·unfold ItX.s;rw[H];rfl
  ·unfold ItX.x;rw[H];rfl
  ·rw[ItX.Mt,AT];unfold ItX.s;rw[H];rfl
 ·exact⟨1,d,.inr ⟨Y,H,Y,Y,Y⟩⟩
def Sl{s:ByteArray}{i j m:Nat}{t:ItX}{r R:List UInt8}{q:Rx}(k:OkI t)(g:xC r)(h:UT s i t r j q R m):
  (xC R/\q=t.x/\j=i+I t.b)\/(nF R=42/\m=1/\UT s i t r (j+1) (.rp 0 (-1) q) r 0/\.rp 0 (-1) q=t.x)\/(nF R=63/\m=1/\UT s i t r (j+1) (.rp 0 1 q) r 0/\.rp 0 1 q=t.x):=by
 obtain⟨A,⟨_,rfl,rfl,e⟩|⟨rfl,l,rfl,rfl,e⟩⟩:=h
 ·exact .inl ⟨g,Y,e⟩
 ·right;rcases k.sf with h|h|h
  ·exact absurd h l
  ·left;have H:t.s=[42]:=by unfold ItX.s;rw[h];rfl
   have d:Rx.rp 0 (-1) t.x0=t.x:=by unfold ItX.x;rw[h];rfl
   rw[H]at A;refine⟨by rw[H];rfl,Y,⟨A.next,.inl ⟨Y,Y,d,?_⟩⟩,d⟩;rw[ItX.Mt,AT,H,e];rfl
  ·right;have H:t.s=[63]:=by unfold ItX.s;rw[h];rfl
   have d:Rx.rp 0 1 t.x0=t.x:=by unfold ItX.x;rw[h];rfl
   rw[H]at A;refine⟨by rw[H];rfl,Y,⟨A.next,.inl ⟨Y,Y,d,?_⟩⟩,d⟩;rw[ItX.Mt,AT,H,e];rfl
def ItX.Xg(t:ItX):t.x.op=1\/t.x.op=4:=by
 have H:t.x0.op=1:=by
  unfold ItX.x0;split<;>rfl
 unfold ItX.x;split
 ·exact .inl H
 ·exact .inr Y
 ·exact .inr Y
def Sn(l:List ItX):(zw l).op=1\/(zw l).op=2\/(zw l).op=4:=by
 match l with
 |[]=>exact .inr (.inl Y)
 |[a]=>rcases a.Xg with h|h;exact .inl h;exact .inr (.inr h)
 |a::b::_=>exact .inr (.inl Y)
def UU{ls:List (List ItX)}{k:Nat}(d:I ls<=2)(H:k<I ls):∃ a r,ls[k]? =some a/\bU (ww k ls)=bC a++r/\((r=[]/\k+1=I ls)\/(r=124::bU (ww (k+1) ls)/\k+1<I ls)):=by
 match ls,d,k,H with
 |[a],_,0,_=>exact⟨a,[],Y,by simp[bU],.inl ⟨Y,Y⟩⟩
 |[a,b],_,0,_=>exact⟨a,124::bC b,Y,Y,.inr ⟨Y,bw⟩⟩
 |[a,b],_,1,_=>exact⟨b,[],Y,by simp[bU],.inl ⟨Y,Y⟩⟩
def Wf(ls:List (List ItX)):Prop:=(∀ l∈ls,(∀ t∈l,OkI t)/\I l<=2)/\1<=I ls/\I ls<=2
def Rx.ps:Rx->Nat
 | .st _ _=>1
 | .c0=>0
 | .c2 x y=>x.ps+y.ps
 | .u2 x y=>x.ps+y.ps
 | .rp _ _ x=>x.ps
def Rx.gd:Rx->Bool
 | .st a b=>decide (a<=b/\b<=1114111)
 | .c0=>true
 | .c2 x y=>decide (x.op≠2/\y.op≠2)&&(x.gd&&y.gd)
 | .u2 x y=>decide (x.op≠3/\y.op≠3)&&(x.gd&&y.gd)
 | .rp m n x=>decide (m=0/\(n= -1\/n=1))&&(decide (1<=x.ps)&&x.gd)
def Rx.sz:Rx->Nat
 | .st _ _=>1
 | .c0=>1
 | .c2 x y=>x.sz+y.sz+1
 | .u2 x y=>x.sz+y.sz+1
 | .rp _ _ x=>x.sz+1
theorem sum_take{α:Type}{f:α->Nat}{l:List α}{k:Nat}{x:α}(h:l[k]? =some x):((J (k+1) l).map f).sum=((J k l).map f).sum+f x/\((J k l).map f).sum+f x<=(l.map f).sum:=by
 have H:((J (k+1) l).map f).sum=((J k l).map f).sum+f x:=by rw[ZD,h];simp
 refine⟨H,?_⟩;have d:=If (λ l=>(l.map f).sum) (XV (k+1) l);simp only[Y0,a1z]at d;omega
theorem Rx.FJ(q:Rx):q.sz=1+(q.ks.map Rx.sz).sum:=by cases q<;>simp[Rx.sz,Rx.ks]<;>omega
def Rx.Fy(q:Rx)(h:q.op≠1):q.ps=(q.ks.map Rx.ps).sum:=by cases q<;>simp[Rx.ps,Rx.ks,Rx.op]at h⊢
def Rx.FD(q:Rx):q.ps<=q.sz:=by induction q<;>simp[Rx.ps,Rx.sz]<;>omega
structure VnX(w:World)(q:Rx)(x:Rn)(rs:List (Nat×Nat))(L:List Rn):Prop where
 hrs:RdL w x.rv.val bG rs
 hks:RdL w x.kv.val aS L
 ln:I L=I q.ks
 kd:∀ (i:Nat) z,L[i]? =some z->∃ k,q.ks[i]? =some k/\RdRx w k z/\k.gd=true/\k.sz<q.sz/\z.op=k.op/\(k.op=q.op->q.op=4)
 op:x.op=q.op
 o1:x.op=1->∃ a b,q= .st a b/\rs=[(a,b)]/\a<=b/\b<=1114111
 r0:x.op≠1->rs=[]
 m0:x.op≠4->x.mn=0/\x.mx=0
 m4:x.op=4->x.mn=0/\(x.mx= -1\/x.mx=1)
 n:x.op=1/\I L=0\/x.op=2/\(I L=0\/I L=2)\/x.op=3/\I L=2\/x.op=4/\I L=1
theorem VnX.of{w:World}{q:Rx}{x:Rn}(h:RdRx w q x)(g:q.gd=true):∃ r L,VnX w q x r L:=by
 obtain⟨L,K,t,N⟩:=h.kids;obtain⟨H,⟨r,P,_,l,p⟩,A,D⟩:=h.head;refine⟨r,L,P,K,t,λ i z j=>?_,H,?_,?_,?_,?_,?_⟩
 ·obtain⟨k,e,j⟩:=N i z j;refine⟨k,e,j,?_⟩;rw[j.head.1];have d:=Xs e;cases q<;>simp only[Rx.ks,Xr,Xq,XA]at d
  ·simp only[Rx.gd,Xz,XS]at g;rcases d with rfl|rfl<;>simp only[Rx.sz,Rx.op]<;>refine⟨?_,O,trivial,λ e=>?_⟩<;>first|exact g.2.1|exact g.2.2|exact absurd e g.1.1|exact absurd e g.1.2
  ·simp only[Rx.gd,Xz,XS]at g;rcases d with rfl|rfl<;>simp only[Rx.sz,Rx.op]<;>refine⟨?_,O,trivial,λ e=>?_⟩<;>first|exact g.2.1|exact g.2.2|exact absurd e g.1.1|exact absurd e g.1.2
  ·simp only[Rx.gd,Xz,XS]at g;subst d;simp only[Rx.sz,Rx.op];exact⟨g.2.2,O,trivial,λ _=>trivial⟩
 ·intro o;rw[H]at o;cases q<;>simp only[Rx.op]at o<;>first|omega|skip
  rename_i a b
  exact⟨a,b,Y,l a b Y,XR g⟩
 ·intro o;refine p λ a b e=>o ?_;rw[H,e];rfl
 ·intro o;refine D λ m n y e=>o ?_;rw[H,e];rfl
 ·intro o;rw[H]at o;cases q<;>simp only[Rx.op]at o<;>first|omega|skip
  rename_i m n y
  obtain⟨E,u⟩:=A m n y Y;simp only[Rx.gd,Xz,XS]at g;rw[E,u];exact g.1
 ·rw[H,t];cases q<;>simp[Rx.op,Rx.ks]
def Ev.re{P:Program}{n:Nat}{L:aA}{w:World}{o:Oper}{v d:Value}(e:v=d)(h:Ev P n L w o v):Ev P n L w o d:=e▸h
theorem Rx.oI(q:Rx):I q.ks<=2:=by cases q<;>simp[Rx.ks]
def n9{P:Program}{w:World}{T b:Nat}{u:Value}(d:cX P T=true)(g:w.cell? ⟨b,0,none⟩=some u):(loadVar T ⟨b,0,none⟩).run P w= .ok u w:=by
 unfold cX at d;cases H:P.underlying T with
 |none=>simp[H]at d
 |some D=>cases D<;>simp[H]at d<;>simp[loadVar,isAgg,Xy H,g,go_sem]
def KF{P:Program}{n:Nat}{L:aA}{w:World}{fn:Func}{Φ:Value->World->Prop}{t u s q T U S R a b c d:Nat}{x y z v:Value}(K:fn.results= #[.cell t T,.cell u U,.cell s S,.cell q R])(h1:look L t=some (.pointer (some ⟨a,0,none⟩)))(h2:look L u=some (.pointer (some ⟨b,0,none⟩)))(l:look L s=some (.pointer (some ⟨c,0,none⟩)))(o:look L q=some (.pointer (some ⟨d,0,none⟩)))
  (D:cX P T=true) (E:cX P U=true) (r:cX P S=true) (p:cX P R=true) (N:w.cell? ⟨a,0,none⟩=some x) (Q:w.cell? ⟨b,0,none⟩=some y) (W:w.cell? ⟨c,0,none⟩=some z) (X:w.cell? ⟨d,0,none⟩=some v)
  (h:Φ (.tuple #[x,y,z,v]) w):aE P n fn Φ L w:=λ A H=>by
 have g:=H.slot t _ h1;have i:=H.slot u _ h2;have j:=H.slot s _ l;have k:=H.slot q _ o;refine⟨_,?_,h⟩;simp[results,K,Ys,g,i,j,k,asAddr,n9 D N,n9 E Q,n9 r W,n9 p X]
instance(c:UInt8):Decidable (okLt c):=inferInstanceAs (Decidable (c=97\/c=98\/c=99\/c=88))
def Wy(t:ItX):Bool:=decide ((t.k=0/\okLt t.c\/t.k=1\/t.k=2)/\(t.sf=0\/t.sf=1\/t.sf=2))
def Sp(ls:List (List ItX)):Bool:=(ls.all λ l=>l.all Wy&&decide (I l<=2))&&decide (1<=I ls/\I ls<=2)
def OM{ls:List (List ItX)}(h:Sp ls=true):Wf ls:=by
 unfold Sp at h;simp only[Xz,Y6,XS]at h;refine⟨λ l H=>⟨λ t d=>?_,(h.1 l H).2⟩,h.2.1,h.2.2⟩;have:=XR ((h.1 l H).1 t d);exact⟨this.1,this.2⟩
def Qj{s:ByteArray}{e:Rx}(h:(s,e)∈Dq):∃ ls,Wf ls/\AtP s 0 (bU ls)/\s.size=I (bU ls)/\s.size<=10/\e=KS ls/\e.gd=true/\e.sz<=30:=by
 obtain⟨ls,H,he⟩:=Y7.1 h;cases he;have d:∀ ls∈Qn,Sp ls=true/\qP (bU ls)=true/\I (bU ls)<=10/\(KS ls).gd=true/\(KS ls).sz<=30:=by
  intro ls H;simp only[Qn,Xr,Xq,XA]at H;rcases H with rfl|rfl|rfl|rfl|rfl|rfl|rfl|rfl<;>decide
 obtain⟨K,g,k,i,j⟩:=d ls H;exact⟨ls,OM K,⟨Y,g,KD _,XL k bl⟩,Y,k,Y,i,j⟩
def UW{s:ByteArray}(h:qP s.data.toList=true){a:Nat}(d:∃ u∈dh s.data.toList,u.r=a):a<127:=by
 obtain⟨u,H,rfl⟩:=d;exact(jt h _ 0 (KM _) u H).2
def UY{w:World}{q:Rx}{x:Rn}(h:RdRx w q x)(g:q.gd=true)(o:q.op=4):∃ k Q y,q= .rp 0 k Q/\(k= -1\/k=1)/\x.mn=0/\x.mx=k/\RdL w x.kv.val aS [y]/\RdRx w Q y/\Q.gd=true/\1<=Q.ps/\Q.sz<q.sz/\Q.ps=q.ps:=by
 cases q<;>simp only[Rx.op]at o<;>first|omega|skip
 rename_i m k Q
 obtain⟨H,_,y,l,j⟩:=h;simp only[Rx.gd,Xz,XS]at g;obtain⟨⟨rfl,d⟩,p,i⟩:=g;exact⟨k,Q,y,Y,d,a3Q,a3Q,l,j,i,p,by simp[Rx.sz],Y⟩
