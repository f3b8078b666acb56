/-
 M41r:bytes read back,at any bytes;and what comes out where they agree with the bytes of something good. No program in sight.
-/
import Derived.Test.YthffkcnbdehceaaGreatM16
import Derived.Test.YthffkcnbdehceaaGreatKrt
import Derived.Test.YthffkcnbdehceaaGreatKd
set_option linter.all false
open Go.Proofs.YthffkcnbdehceaaGreat
open List
namespace Go.Kw
def Agr(l s:List Nat):Prop:=(∃ t,s=l++t)\/∃ t,l=s++t
theorem Agr.refl(l:List Nat):Agr l l:=.inl ⟨[],by simp⟩
theorem Agr.cut{x l s:List Nat}(h:Agr l (x++s)):(∃ r,l=x++r/\Agr r s)\/∃ t,x=l++t/\t≠[]:=by
 rcases h with⟨t,h⟩|⟨t,h⟩
 ·rcases append_eq_append_iff.1 h with⟨a,h1,h2⟩|⟨a,h1,h2⟩
  ·exact .inl ⟨a,h1,.inl ⟨t,h2⟩⟩
  ·by_cases e:a=[]
   ·subst e;exact .inl ⟨[],by simpa using h1.symm,.inl ⟨s,Y⟩⟩
   ·exact .inr ⟨a,h1,e⟩
 ·exact .inl ⟨s++t,by rw[h,KV],.inr ⟨t,Y⟩⟩
def xo{l s:List Nat}{n:Nat}(hb:∀ y∈l,y<256)(hn:n<=1073741824)(h:Agr l (uv n++s))(hk:(aX true l 1073741824).2.1=true):(aX true l 1073741824).1=n/\Agr (aX true l 1073741824).2.2 s:=by
 rcases h.cut with⟨r,rfl,hr⟩|⟨t,ht,hne⟩
 ·rw[gI (by omega) hn];exact⟨Y,hr⟩
 ·exfalso;unfold aX at hk;split at hk
  ·cases hk
  ·rename_i hq
   have h0:(gH l).2.2=0:=SM λ q=>hq (.inr (.inl q));obtain⟨e1,e2⟩:=Kp hb h0;have e3:uv n++[]=uv (gH l).1++(l.drop (gH l).2.1++t):=by rw[<-KV,<-e1,SO];exact ht
   have e4:=(NO (by omega) e2 e3).2;exact hne (append_eq_nil_iff.1 e4.symm).2
def mj(ok:Bool)(l:List Nat):List Nat×Bool×List Nat:=
 if(aX ok l 1073741824).2.1=false\/(aX ok l 1073741824).2.2.length<(aX ok l 1073741824).1 then([],false,(aX ok l 1073741824).2.2)
 else((aX ok l 1073741824).2.2.take (aX ok l 1073741824).1,true,(aX ok l 1073741824).2.2.drop (aX ok l 1073741824).1)
def th{ok:Bool}{l:List Nat}{lim:Nat}(h:ok=false):aX ok l lim=(0,false,l):=by unfold aX;rw[No (.inl h)]
def Lu{ok:Bool}{l:List Nat}(h:ok=false):mj ok l=([],false,l):=by
 have e:=th (l:=l) (lim:=1073741824) h;unfold mj;rw[e,No (.inl Y)]
def D6(ok:Bool)(l:List Nat):(mj ok l).2.2.length<=l.length/\(mj ok l).1.length<=l.length:=by
 have h:=ie ok l 1073741824;unfold mj;split
 ·exact⟨h,KB _⟩
 ·simp only[Ry,KW];omega
def D7(ok:Bool)(l:List Nat):(∀ x∈(mj ok l).2.2,x∈l)/\∀ x∈(mj ok l).1,x∈l:=by
 have h:=dY ok l 1073741824;unfold mj;split
 ·exact⟨h,λ x hx=>by cases hx⟩
 ·exact⟨λ x hx=>h x (Sv hx),λ x hx=>h x (RZ hx)⟩
def Iw{l s m:List Nat}(hb:∀ y∈l,y<256)(hn:m.length<=1073741824)(h:Agr l (la m++s))(hk:(mj true l).2.1=true):(mj true l).1=m/\Agr (mj true l).2.2 s:=by
 unfold mj at hk⊢;split at hk
 ·cases hk
 ·rename_i hq
  have h1:(aX true l 1073741824).2.1=true:=by
   cases hc:(aX true l 1073741824).2.1 with
   |false=>exact absurd (.inl hc) hq
   |true=>rfl
  have h2:(aX true l 1073741824).1<=(aX true l 1073741824).2.2.length:=TT λ q=>hq (.inr q);unfold la at h;rw[KV]at h;obtain⟨e1,e2⟩:=xo hb hn h h1;rw[M2 hq];simp only;rw[e1]at h2⊢;rcases e2.cut with⟨r,hr,hs⟩|⟨t,ht,hne⟩
  ·rw[hr];exact⟨by simp,by simpa using hs⟩
  ·exfalso;have:=If List.length ht;rw[sp]at this;have h3:0<t.length:=Vr.2 hne;omega
def ju{S α:Type}(ok:S->Bool)(f:S->α×S):Nat->S->List α×S
 |0,s=>([],s)
 |n+1,s=>if ok s=true then((f s).1::(ju ok f n (f s).2).1,(ju ok f n (f s).2).2)else([],s)
section
variable {S α:Type} {ok:S->Bool} {f:S->α×S}
def D8{n:Nat}{s:S}(h:ok s=false):ju ok f n s=([],s):=by
 cases n with
 |zero=>rfl
 |succ n=>rw[ju,M2 (by rw[h];simp)]
def zT{n:Nat}{s:S}(h:ok s=true):ju ok f (n+1) s=((f s).1::(ju ok f n (f s).2).1,(ju ok f n (f s).2).2):=by rw[ju,No h]
end
abbrev RS:=Bool×List Nat
def aV(s:RS):Nat×RS:=aX s.1 s.2 1073741824
def bh(s:RS):ByteArray×RS:=(strOf (mj s.1 s.2).1,(mj s.1 s.2).2)
def ti(s:RS):Pr×RS:=(((bh s).1,(bh (bh s).2).1),(bh (bh s).2).2)
def qk(s:RS):List Pr×RS:=ju Prod.fst ti (aV s).1 (aV s).2
def BJ(s:RS×Nat):mr×(RS×Nat):=
 let a:=bh s.1;let n:=aV a.2;let p:=qk n.2
 ((a.1,(s.2:Int),((s.2+n.1:Nat):Int),p.1),(p.2,s.2+n.1))
def zU(s:RS×Nat):mr×(RS×Nat):=
 let a:=bh s.1;let n:=aV a.2;let e:=aV n.2;let p:=qk e.2
 ((a.1,((s.2+n.1:Nat):Int),((s.2+n.1+e.1:Nat):Int),p.1),(p.2,s.2+n.1))
def Ix(s:RS):Nd×RS:=
 let a:=bh s;let p:=aV a.2;let b:=aV p.2;let e:=aV b.2
 (⟨a.1,(b.1:Int),((b.1+e.1:Nat):Int),(p.1:Int)-1⟩,e.2)
def D9(s:RS):(Int×ByteArray)×RS:=((((aV s).1:Int)-1,(bh (aV s).2).1),(bh (aV s).2).2)
def xN(p:RS×Nat):Bool:=p.1.1
def eD(s:RS)(a:Nat):List mr×(RS×Nat):=ju xN BJ (aV s).1 ((aV s).2,a)
def eS(s:RS)(a:Nat):List mr×(RS×Nat):=ju xN zU (aV s).1 ((aV s).2,a)
def fC(s:RS):List Nd×RS:=ju Prod.fst Ix (aV s).1 (aV s).2
def iy(s:RS):List (Int×ByteArray)×RS:=ju Prod.fst D9 (aV s).1 (aV s).2
structure RB(s:RS):Prop where
 lt:∀ x∈s.2,x<256
 len:s.2.length<=1000000000
def RB.nm{s:RS}(h:RB s):RB (aV s).2:=⟨λ x hx=>h.lt x (dY _ _ _ x hx),RV (ie _ _ _) h.len⟩
def RB.tx{s:RS}(h:RB s):RB (bh s).2:=⟨λ x hx=>h.lt x ((D7 _ _).1 x hx),RV (D6 _ _).1 h.len⟩
def og{S α:Type}{ok:S->Bool}{f:S->α×S}{Q:S->Prop}(hf:∀ s,Q s->Q (f s).2):∀ (n:Nat) (s:S),Q s->Q (ju ok f n s).2
 |0,s,h=>h
 |n+1,s,h=>by
  rw[ju];split
  ·exact og hf n _ (hf s h)
  ·exact h
def RB.Ri{s:RS}(h:RB s):RB (ti s).2:=h.tx.tx
def RB.pr{s:RS}(h:RB s):RB (qk s).2:=og (Q:=RB) (λ _ h=>h.Ri) _ _ h.nm
def RB.dc{s:RS}(h:RB s)(a:Nat):RB (BJ (s,a)).2.1:=h.tx.nm.pr
def RB.rg{s:RS}(h:RB s)(a:Nat):RB (zU (s,a)).2.1:=h.tx.nm.nm.pr
def RB.nd{s:RS}(h:RB s):RB (Ix s).2:=h.tx.nm.nm.nm
def RB.he{s:RS}(h:RB s):RB (D9 s).2:=h.nm.tx
def RB.QQ{s:RS}(h:RB s)(a:Nat):RB (eD s a).2.1:=og (Q:=λ p:RS×Nat=>RB p.1) (λ p h=>h.dc p.2) _ _ h.nm
def RB.Rh{s:RS}(h:RB s)(a:Nat):RB (eS s a).2.1:=og (Q:=λ p:RS×Nat=>RB p.1) (λ p h=>h.rg p.2) _ _ h.nm
def RB.Rn{s:RS}(h:RB s):RB (fC s).2:=og (Q:=RB) (λ _ h=>h.nd) _ _ h.nm
def eK(s:RS):(aV s).1<=1073741824:=lW _ _ _
def oh{S α:Type}{ok:S->Bool}{f:S->α×S}{n:Nat}{s:S}(h:ok s=true)(hn:0<n):ju ok f n s=((f s).1::(ju ok f (n-1) (f s).2).1,(ju ok f (n-1) (f s).2).2):=by
 obtain⟨m,rfl⟩:∃ m,n=m+1:=⟨n-1,by omega⟩;exact zT h
def om{S α:Type}{ok:S->Bool}{f:S->α×S}{n:Nat}{s:S}(h:¬ (0<n/\ok s=true)):ju ok f n s=([],s):=by
 cases n with
 |zero=>rfl
 |succ n=>rw[ju,M2 λ q=>h ⟨by omega,q⟩]
def BK(s:RS):(bh s).1.size<=s.2.length:=by
 show(strOf (mj s.1 s.2).1).size<=_;rw[ca];exact(D6 _ _).2
def At(X:Bool)(s:RS)(r:List Nat):Prop:=(s.1=true->(∀ y∈s.2,y<256)/\Agr s.2 r)/\(X=true->s=(true,r))
def At.off{X:Bool}{s:RS}{r r':List Nat}(h:At X s r)(h0:s.1=false):At X s r':=
 ⟨λ q=>(by rw[h0]at q;cases q),λ q=>(by have:=h.2 q;rw[this]at h0;cases h0)⟩
def iO{X:Bool}{s:RS}{r:List Nat}{n:Nat}(h:At X s (uv n++r))(hn:n<=1073741824):At X (aV s).2 r/\((aV s).2.1=true->s.1=true/\(aV s).1=n):=by
 have hx:X=true->(aV s).2=(true,r):=λ q=>by
  rw[h.2 q];show(aX true (uv n++r) 1073741824).2=_;rw[gI (by omega) hn]
 obtain⟨ok,l⟩:=s;cases ok with
 |false=>
  have e:aV (false,l)=(0,false,l):=th Y;rw[e]at hx⊢;exact⟨⟨λ q=>(by cases q),hx⟩,λ q=>(by cases q)⟩
 |true=>
  obtain⟨hb,ha⟩:=h.1 Y;exact⟨⟨λ q=>⟨λ y hy=>hb y (dY _ _ _ y hy),(xo hb hn ha q).2⟩,hx⟩,λ q=>⟨Y,(xo hb hn ha q).1⟩⟩
theorem gS(a:ByteArray):strOf (cr a)=a:=by
 apply zO;unfold cr strOf;simp only[U4,toList_toArray];rw[show(λ b:UInt8=>b.toNat)∘(λ n=>UInt8.ofNat n)∘(λ b:UInt8=>b.toNat)=λ b=>b.toNat from by
  funext b;show(UInt8.ofNat b.toNat).toNat=b.toNat;rw[UInt8.ofNat_toNat]]
def NR{m r:List Nat}(hn:m.length<=1073741824):mj true (la m++r)=(m,true,r):=by
 unfold la mj;rw[KV,gI (by omega) hn,M2 (show¬ (true=false\/(m++r).length<m.length)from λ q=>by rcases q with q|q;cases q;rw[sp]at q;omega)];simp
def xp{X:Bool}{s:RS}{r m:List Nat}(h:At X s (la m++r))(hn:m.length<=1073741824):At X (mj s.1 s.2).2 r/\((mj s.1 s.2).2.1=true->s.1=true/\(mj s.1 s.2).1=m):=by
 have hx:X=true->(mj s.1 s.2).2=(true,r):=λ q=>by
  rw[h.2 q];show(mj true (la m++r)).2=_;rw[NR hn]
 obtain⟨ok,l⟩:=s;cases ok with
 |false=>
  have e:mj false l=([],false,l):=Lu Y;show At X (mj false l).2 r/\((mj false l).2.1=true->false=true/\(mj false l).1=m)
  replace hx:X=true->(mj false l).2=(true,r):=hx
  rw[e]at hx⊢;exact⟨⟨λ q=>(by cases q),hx⟩,λ q=>(by cases q)⟩
 |true=>
  obtain⟨hb,ha⟩:=h.1 Y;exact⟨⟨λ q=>⟨λ y hy=>hb y ((D7 _ _).1 y hy),(Iw hb hn ha q).2⟩,hx⟩,λ q=>⟨Y,(Iw hb hn ha q).1⟩⟩
def tj{X:Bool}{s:RS}{r:List Nat}{a:ByteArray}(h:At X s (ct a++r))(hn:a.size<=1073741824):At X (bh s).2 r/\((bh s).2.1=true->s.1=true/\(bh s).1=a):=by
 have e:ct a=la (cr a):=by unfold ct la;rw[ay]
 rw[e]at h;obtain⟨h1,h2⟩:=xp h (by rw[ay];exact hn);refine⟨h1,λ q=>?_⟩;obtain⟨a1,a2⟩:=h2 q;refine⟨a1,?_⟩;show strOf (mj s.1 s.2).1=a;rw[a2,gS]
def pG{S α β:Type}{ok:S->Bool}{f:S->α×S}{val:α->β}{okb:β->Prop}{G:List β->S->Prop}(h0:∀ s l,ok s=false->G l s->G [] s)(hf:∀ s x l,okb x->G (x::l) s->G l (f s).2/\(ok (f s).2=true->ok s=true/\val (f s).1=x)):∀ (xs:List β) (s:S),(∀ x∈xs,okb x)->G xs s->G [] (ju ok f xs.length s).2/\(ok (ju ok f xs.length s).2=true->ok s=true/\(ju ok f xs.length s).1.map val=xs)
 |[],s,_,h=>⟨h,λ q=>⟨q,Y⟩⟩
 |x::xs,s,hx,h=>by
  rw[LW];cases ho:ok s with
  |false=>rw[D8 ho];exact⟨h0 s _ ho h,λ q=>(by rw[ho]at q;cases q)⟩
  |true=>
   rw[zT ho];obtain⟨g1,g2⟩:=hf s x xs (hx x (by simp)) h;obtain⟨k1,k2⟩:=pG h0 hf xs (f s).2 (λ y hy=>hx y (by simp[hy])) g1;refine⟨k1,λ q=>⟨Y,?_⟩⟩;obtain⟨q1,q2⟩:=k2 q;show((f s).1::(ju ok f xs.length (f s).2).1).map val=_;rw[Sg,(g2 q1).2,q2]
def tm{S α β:Type}{ok:S->Bool}{f:S->α×S}{val:α->β}{G:List β->S->Prop}(h0:∀ s l,ok s=false->G l s->G [] s){xs:List β}{m:Nat}{s:S}(hm:ok s=true->m=xs.length)(hG:G xs s)(h:G [] (ju ok f xs.length s).2/\(ok (ju ok f xs.length s).2=true->ok s=true/\(ju ok f xs.length s).1.map val=xs)):G [] (ju ok f m s).2/\(ok (ju ok f m s).2=true->ok s=true/\(ju ok f m s).1.map val=xs):=by
 cases ho:ok s with
 |false=>rw[D8 ho];exact⟨h0 s _ ho hG,λ q=>(by rw[ho]at q;cases q)⟩
 |true=>rw[hm ho];exact⟨h.1,λ q=>⟨Y,(h.2 q).2⟩⟩
def QM(p:Pr):Prop:=p.1.size<=1073741824/\p.2.size<=1073741824
def My{X:Bool}{s:RS}{r:List Nat}{ps:List Pr}(h:At X s (qj ps++r))(hl:ps.length<=1073741824)(hs:∀ p∈ps,QM p):At X (qk s).2 r/\((qk s).2.1=true->s.1=true/\(qk s).1=ps):=by
 unfold qj at h;rw[KV]at h;obtain⟨h1,h2⟩:=iO h hl;let G:List Pr->RS->Prop:=λ l s=>At X s ((l.flatMap λ p:Pr=>ct p.1++ct p.2)++r);have h0:∀ (s:RS) (l:List Pr),s.1=false->G l s->G [] s:=λ s l q g=>At.off g q;have key:=tm (f:=ti) (val:=id) (G:=G) h0 (m:=(aV s).1) (λ q=>(h2 q).2) h1 (pG (ok:=Prod.fst) (f:=ti) (val:=id) (okb:=QM) h0 (λ s x l hx g=>by
  have g':At X s (ct x.1++(ct x.2++((l.flatMap λ p:Pr=>ct p.1++ct p.2)++r))):=by
   have e:((x::l).flatMap λ p:Pr=>ct p.1++ct p.2)++r=ct x.1++(ct x.2++((l.flatMap λ p:Pr=>ct p.1++ct p.2)++r)):=by rw[TK];simp only[KV]
   rw[<-e];exact g
  obtain⟨a1,a2⟩:=tj g' hx.1;obtain⟨b1,b2⟩:=tj a1 hx.2;refine⟨b1,λ q=>?_⟩;obtain⟨c1,c2⟩:=b2 q;obtain⟨d1,d2⟩:=a2 c1;exact⟨d1,Ug d2 c2⟩) ps (aV s).2 hs h1)
 refine⟨key.1,λ q=>?_⟩;obtain⟨k1,k2⟩:=key.2 q;exact⟨(h2 k1).1,by rw[map_id]at k2;exact k2⟩
def v4{x y:Iv}(h:x.v=y.v):x.nm=y.nm/\x.b=y.b/\x.e=y.e/\x.ps=y.ps:=
 ⟨If (λ q:mr=>q.1) h,If (λ q:mr=>q.2.1) h,If (λ q:mr=>q.2.2.1) h,If (λ q:mr=>q.2.2.2) h⟩
def oo{l m:List Iv}(h:l.map Iv.v=m.map Iv.v){i:Nat}{x:Iv}(hx:m[i]? =some x):∃ y,l[i]? =some y/\y.v=x.v:=by
 have e:=If (·[i]?) h;simp only[Rz,hx,T9]at e;cases hy:l[i]? with
 |none=>rw[hy]at e;cases e
 |some y=>rw[hy]at e;exact⟨y,Y,SC e⟩
def vR{l m:List Iv}(h:l.map Iv.v=m.map Iv.v){x:Iv}(hx:x∈m):∃ y,y∈l/\y.v=x.v:=by
 obtain⟨i,hi⟩:=Sd hx;obtain⟨y,hy,e⟩:=oo h hi;exact⟨y,Rv hy,e⟩
def Da{l m:List Iv}(h:l.map Iv.v=m.map Iv.v):l.length=m.length:=by simpa using If List.length h
def NS{x y p q:Iv}(h:x.v=p.v)(k:y.v=q.v):eB x y=eB p q:=by
 obtain⟨h1,h2,h3,h4⟩:=v4 h;obtain⟨k1,k2,k3,k4⟩:=v4 k;unfold eB;rw[h1,h2,h3,h4,k1,k2,k3,k4]
def Mz{l m:List Iv}(h:l.map Iv.v=m.map Iv.v){b e:Int}(hi:inT l b e):inT m b e:=by
 obtain⟨t,ht,h1⟩:=hi;obtain⟨y,hy,e1⟩:=vR h.symm ht;obtain⟨_,e2,e3,_⟩:=v4 e1;exact⟨y,hy,by rw[e2,e3];exact h1⟩
def NT{n:Int}{l m:List Iv}(h:l.map Iv.v=m.map Iv.v)(k:okTx n l):okTx n m where
 nm x hx:=by
  obtain⟨y,hy,e⟩:=vR h hx;obtain⟨e1,e2,e3,e4⟩:=v4 e;have:=k.nm y hy;rwa[e1,e2,e3,e4]at this
 nd i j x y hx hy hij:=by
  obtain⟨x',hx',ex⟩:=oo h hx;obtain⟨y',hy',ey⟩:=oo h hy;rw[<-(v4 ex).1,<-(v4 ey).1];exact k.nd i j x' y' hx' hy' hij
 first x hx:=by
  obtain⟨x',hx',ex⟩:=oo h hx;rw[<-(v4 ex).2.1];exact k.first x' hx'
 next i x y hx hy:=by
  obtain⟨x',hx',ex⟩:=oo h hx;obtain⟨y',hy',ey⟩:=oo h hy;rw[<-(v4 ex).2.2.1,<-(v4 ey).2.1];exact k.next i x' y' hx' hy'
 last i x hx hi:=by
  obtain⟨x',hx',ex⟩:=oo h hx;rw[<-(v4 ex).2.2.1];exact k.last i x' hx' (by rw[Da h];exact hi)
 none_:=by
  rw[<-k.none_,<-length_eq_zero_iff,<-length_eq_zero_iff,Da h]
def Pp{x y p q:Iv}(h:x.v=p.v)(k:y.v=q.v)(hn:noX x y):noX p q:=by
 obtain⟨h1,h2,h3,_⟩:=v4 h;obtain⟨k1,k2,k3,_⟩:=v4 k;unfold noX at hn⊢;rw[h1,h2,h3,k1,k2,k3]at hn;exact hn
def OkC.Rb{k:Nat}{c d:Co}(h:OkC k c)(e:c.v=d.v):OkC k d:=by
 have eA:c.at_=d.at_:=If pE.at_ e;have eT:c.tk.map (·.ns)=d.tk.map (·.ns):=If pE.tk e;have eX:c.tx.map Iv.v=d.tx.map Iv.v:=If pE.tx e;have eR:c.rg.map Iv.v=d.rg.map Iv.v:=If pE.rg e;have eN:c.nd=d.nd:=If pE.nd e;have eH:c.hd=d.hd:=If pE.hd e;have eL:c.rl=d.rl:=If pE.rl e;have eTl:c.tk.length=d.tk.length:=by simpa using If List.length eT
 refine⟨eA▸h.at_,λ t ht=>?_,λ t ht=>?_,eTl▸NT eX h.tx,⟨λ x hx=>?_,λ i x y hx hy=>?_,λ x hx y hy=>?_⟩,⟨λ x hx=>?_,eN▸h.nd.par,eN▸h.nd.sib⟩,?_,by rw[<-eTl];exact h.ntk,by rw[<-Da eX];exact h.ntx,by rw[<-Da eR];exact h.nrg,by rw[<-eN];exact h.nnd⟩
 ·have hm:t.ns∈c.tk.map (·.ns):=by rw[eT];exact Su ht
  obtain⟨u,hu,e1⟩:=Sk.1 hm;exact e1▸h.voc u hu
 ·have hm:t.ns∈c.tk.map (·.ns):=by rw[eT];exact Su ht
  obtain⟨u,hu,e1⟩:=Sk.1 hm;have:=h.tk u hu;rw[e1]at this;rw[<-eA];exact this
 ·obtain⟨y,hy,e1⟩:=vR eR hx;obtain⟨a1,a2,a3,a4⟩:=v4 e1;obtain⟨b1,b2,b3⟩:=h.rg.el y hy;rw[a1]at b1;rw[a4]at b3;rw[a2,a3]at b2;exact⟨b1,Mz eX b2,b3⟩
 ·obtain⟨x',hx',ex⟩:=oo eR hx;obtain⟨y',hy',ey⟩:=oo eR hy;rw[<-NS ex ey];exact h.rg.asc i x' y' hx' hy'
 ·obtain⟨x',hx',ex⟩:=vR eR hx;obtain⟨y',hy',ey⟩:=vR eR hy;exact Pp ex ey (h.rg.nox x' hx' y' hy')
 ·have:=h.nd.el x (by rw[eN];exact hx);exact⟨this.1,Mz eX this.2⟩
 ·rcases h.hd with⟨a,b⟩|a
  ·exact .inl ⟨eH▸a,eL▸b⟩
  ·refine .inr ⟨by rw[<-eTl,<-eH,<-eL];exact a.len,eH▸eL▸a.bare,λ i x hx=>?_,eL▸a.nm,eH▸a.rk⟩;rcases a.el i x (by rw[eH];exact hx)with q|⟨t,ht,q⟩
   ·exact .inl q
   ·obtain⟨y,hy,e1⟩:=vR eX.symm ht;obtain⟨_,a2,a3,_⟩:=v4 e1;exact .inr ⟨y,hy,by rw[a2,a3];exact q⟩
def ig{l:List Nat}(h:∀ x∈l,x<256):cr (strOf l)=l:=by
 unfold cr strOf;simp only[U4,toList_toArray];rw[TD (g:=id) (λ x hx=>by
  show(UInt8.ofNat x).toNat=x;rw[UInt8.toNat_ofNat'];exact RR (h x hx)),map_id]
def gN{l:List Nat}(h:∀ x∈l,x<256):ct (strOf l)=la l:=by
 unfold ct la;rw[ig h,ca]
def iP{α:Type}{f:α->List Nat}{l:List α}{k:Nat}{x:α}(hx:l[k]? =some x):(l.take (k+1)).flatMap f=(l.take k).flatMap f++f x:=by rw[aj hx,US];simp
def tq{α:Type}{f:α->List Nat}{B:Nat}:∀ (l:List α),(∀ x∈l,(f x).length<=B)->(l.flatMap f).length<=B*l.length
 |[],_=>by simp
 |x::l,h=>by
  have h1:=h x (by simp);have h2:=tq l λ y hy=>h y (by simp[hy]);rw[TK,sp,LW,Nat.mul_succ];omega
def xq{f:Nat->List Nat}(k:Nat):(List.range (k+1)).flatMap f=(List.range k).flatMap f++f k:=by rw[To,US];simp
def bS(s:ByteArray):(ct s).length<=s.size+10:=by unfold ct;have:=aC s.size;rw[sp,ay];omega
def Db{ps:List Pr}(h:okPs ps){k:Nat}{p:Pr}(hp:ps[k]? =some p):p.1.size<=32/\p.2.size<=120:=by
 have h1:=h.2.1 p (Rv hp);exact⟨bt h1.1,iN h1.2⟩
def lY{ps:List Pr}(h:okPs ps):(qj ps).length<=1600:=by
 have h1:=tq (f:=λ p:Pr=>ct p.1++ct p.2) (B:=172) ps λ p hp=>by
  have h2:=h.2.1 p hp;have h3:=bt h2.1;have h4:=iN h2.2;have h5:=bS p.1;have h6:=bS p.2;rw[sp];omega
 have h7:=aC ps.length;have h8:=h.1;unfold qj;rw[sp];have h9:172*ps.length<=172*8:=UD _ h8;omega
def OkC.Jd{n:Nat}{c:Co}(h:OkC n c)(hn:n<=3):c.hd.length=c.rl.length/\c.hd.length<=36:=by
 rcases h.hd with⟨a,b⟩|a
 ·rw[a,b];exact⟨Y,KB _⟩
 ·have:=a.len;have:=h.ntk;omega
def OkC.Qt{n:Nat}{c:Co}(h:OkC n c)(hn:n<=3){k:Nat}{x:Int}{s:ByteArray}(hx:c.hd[k]? =some x)(hs:c.rl[k]? =some s): -1<=x/\x<=36/\s.size<=32:=by
 have hk:=h.ntk;rcases h.hd with⟨a,b⟩|a
 ·rw[a]at hx;simp at hx
 ·have q2:=a.nm s (Rv hs);have q3:s.size<=32:=by
   rcases q2 with e|e
   ·rw[e];exact KB _
   ·exact bt e
  rcases a.el k x hx with e|⟨t,ht,e⟩
  ·exact⟨by omega,by omega,q3⟩
  ·have:=h.tx.nm t ht;exact⟨by omega,by omega,q3⟩
def Dc{α β:Type}{l:List α}{m:List β}{k:Nat}{x:α}{y:β}(hx:l[k]? =some x)(hy:m[k]? =some y):(l.zip m)[k]? =some (x,y):=by rw[UJ];exact⟨hx,hy⟩
def Fy(nd:List Nd)(hd:List Int)(rl:List ByteArray):List Nat:=uv nd.length++(nd.flatMap tf++(uv hd.length++(hd.zip rl).flatMap tJ))
def cx(c:Co)(a:Nat):List ByteArray:=c.tk.map λ t=>t.ns.getD a ByteArray.empty
def Iy:∀ {vs:List ByteArray},(∀ v∈vs,v.size<=120/\dD v=true)->fj vs=0
 |[],_=>rfl
 |v::r,h=>by
  have h1:=h v (by simp);unfold fj;rw[M2 (by omega),M2 (by rw[h1.2];simp),Iy λ x hx=>h x (by simp[hx])]
def BL{s:ByteArray}(h:jL s=true):dD s=true:=by
 unfold jL at h;simp only[RC]at h;exact h.2.1
def zV{n:Nat}{c:Co}(h:OkC n c){a:Nat}(ha:a<c.at_.length){v:ByteArray}(hv:v∈cx c a):v.size<=120/\dD v=true:=by
 obtain⟨t,ht,rfl⟩:=Sk.1 hv;have q:=h.tk t ht;rw[KP,py (by omega:a<t.ns.length)];have:=(q.2 a _ _ (py (by omega:a<t.ns.length)) (py ha)).val;exact⟨iN this,BL this⟩
def jw(c:Co)(a:Nat):(cx c a).length=c.tk.length:=by unfold cx;rw[Rq]
def lZ{n:Nat}{c:Co}(h:OkC n c)(hn:n<=3){a:Nat}(ha:a<c.at_.length):dy (cx c a)=0/\Pn (cx c a):=by
 have h1:=h.ntk;have h2:=jw c a;have h3:=bm (cx c a);refine⟨?_,⟨by omega,h.Qj a⟩,λ v hv=>(zV h ha hv).1⟩;unfold dy;rw[M2 (by omega),Iy λ v hv=>zV h ha hv,M2 (by simp),M2 (by omega)]
def pH{c:Co}{a k:Nat}{t:Tk}{v:ByteArray}(ht:c.tk[k]? =some t)(hv:t.ns[a]? =some v):(c.tk.take (k+1)).map (λ t=>t.ns.getD a ByteArray.empty)=(c.tk.take k).map (λ t=>t.ns.getD a ByteArray.empty)++[v]:=by
 rw[aj ht,Si,V5,KP,hv,Ta]
def BM(c:Co)(a:Nat):(c.v.tk.map λ t=>t.getD a ByteArray.empty)=cx c a:=by
 show(c.tk.map (·.ns)).map (λ t=>t.getD a ByteArray.empty)=_;rw[U4];rfl
def zW{ns:List Nat}{S:List (SV×List Nat)}{m k x:Nat}{p:SV×List Nat}{sv:SV}(hx:ns[k]? =some x)(hS:S.map Prod.snd=(List.range m).map (dz (ns.take k)))(hp:S[x]? =some p):(S.set x (sv,p.2++[k])).map Prod.snd=(List.range m).map (dz (ns.take (k+1))):=by
 have hk:k<ns.length:=(IN.1 hx).1;have hl:S.length=m:=by simpa using If List.length hS
 have hxm:x<m:=by have:=(IN.1 hp).1;omega
 have e:∀ j,j<m->(S.map Prod.snd)[j]? =some (dz (ns.take k) j):=λ j hj=>by rw[hS];simp[hj]
 have e0:p.2=dz (ns.take k) x:=by have:=e x hxm;rw[Rz,hp]at this;exact SC this
 apply TL;intro j;rw[map_set,T8];have hsn:ns.take (k+1)=ns.take k++[x]:=aj hx;have hlt:(ns.take k).length=k:=by rw[KW];omega
 by_cases hj:j<m
 ·rw[show((List.range m).map (dz (ns.take (k+1))))[j]? =some (dz (ns.take (k+1)) j) by simp[hj],hsn,Fg,hlt];by_cases hxj:x=j
  ·subst hxj;rw[No Y,No (by rw[Rq];omega),No Y,e0]
  ·rw[M2 hxj,M2 hxj];exact e j hj
 ·have e2:((List.range m).map (dz (ns.take (k+1))))[j]? =none:=RN (by simp;omega);have e3:(S.map Prod.snd)[j]? =none:=RN (by rw[Rq];omega);rw[e2,M2 (show¬ x=j by omega)];exact e3
def qO{ns:List Nat}{S:List (SV×List Nat)}{m k:Nat}{p:SV×List Nat}(hS:S.map Prod.snd=(List.range m).map (dz ns))(hp:S[k]? =some p):p.2=dz ns k/\k<m:=by
 have hl:S.length=m:=by simpa using If List.length hS
 have hk:k<m:=by have:=(IN.1 hp).1;omega
 have h1:(S.map Prod.snd)[k]? =some (dz ns k):=by rw[hS];simp[hk]
 rw[Rz,hp]at h1;exact⟨SC h1,hk⟩
def qP{l:List Iv}{k:Nat}{x:Iv}(hx:l[k]? =some x):fX 0 ((l.take (k+1)).map Iv.v)=fX 0 ((l.take k).map Iv.v)++Mt (Mu 0 ((l.take k).map Iv.v)) x.v/\Mu 0 ((l.take (k+1)).map Iv.v)=x.b:=by
 rw[aj hx,Si,V5,vQ];exact⟨Y,by unfold Mu;rw[foldl_append];rfl⟩
def Jp(l:List Nat)(n W:Nat):List Nat:=(List.range' n (W-n)).flatMap λ n=>la (aN (mQ (dz l n)))
def Iz{l:List Nat}{n W:Nat}(h:n<W):Jp l n W=la (aN (mQ (dz l n)))++Jp l (n+1) W:=by
 unfold Jp;rw[show W-n=(W-(n+1))+1 by omega,range'_succ,TK]
def Lv{l:List Nat}{n W:Nat}(h:W<=n):Jp l n W=[]:=by unfold Jp;rw[show W-n=0 by omega];rfl
def IA(l:List Nat)(W:Nat):Jp l 0 W=u9 l W:=by unfold Jp u9;rw[range_eq_range'];rfl
def jx(c:Co)(k i:Nat):List (List ByteArray):=((c.tk.take i).map λ t=>t.ns.take (k+1))++((c.tk.drop i).map λ t=>t.ns.take k)
def BN(c:Co)(k:Nat):jx c k 0=c.tk.map λ t=>t.ns.take k:=by simp[jx]
def vS(c:Co)(k i:Nat):(jx c k i).length=c.tk.length:=by unfold jx;simp;omega
def Fl{n:Nat}{c:Co}(h:OkC n c){k i j:Nat}{x:List ByteArray}(hx:(jx c k i)[j]? =some x):x.length<=100:=by
 have h1:=h.at_.2;have hm:=Rv hx;unfold jx at hm;rcases RE.1 hm with q|q
 ·obtain⟨t,ht,rfl⟩:=Sk.1 q;have:=(h.tk t (RZ ht)).1;rw[KW];omega
 ·obtain⟨t,ht,rfl⟩:=Sk.1 q;have:=(h.tk t (Sv ht)).1;rw[KW];omega
def Fm{c:Co}{k i:Nat}(h:c.tk.length<=i):jx c k i=c.tk.map λ t=>t.ns.take (k+1):=by
 unfold jx;rw[Ru h,SF h];simp
def Pq{c:Co}{m k:Nat}(hm:m=c.tk.length)(hk:k=0):(List.replicate m ((⟨none,0,0⟩:SV),([]:List ByteArray))).map Prod.snd=c.tk.map λ t=>t.ns.take k:=by
 subst hm;subst hk;simp only[map_replicate,VN];rw[map_const']
def IB{c:Co}{S:List (SV×List ByteArray)}{k i:Nat}{p:SV×List ByteArray}{sv:SV}{v:ByteArray}(hS:S.map Prod.snd=jx c k i)(hp:S[i]? =some p)(hv:(cx c k)[i]? =some v)(hk:∀ t∈c.tk,k<t.ns.length):(S.set i (sv,p.2++[v])).map Prod.snd=jx c k (i+1):=by
 have hl:S.length=c.tk.length:=by have:=If List.length hS;rwa[Rq,vS]at this
 have hi:i<c.tk.length:=by have:=(IN.1 hp).1;omega
 obtain⟨t,ht⟩:∃ t,c.tk[i]? =some t:=⟨_,py hi⟩;have hkt:=hk t (Rv ht);have hvt:t.ns[k]? =some v:=by
  unfold cx at hv;rw[Rz,ht]at hv;have h9:t.ns.getD k ByteArray.empty=v:=SC hv;rw[KP,py hkt,Ta]at h9;rw[py hkt,h9]
 have h1:(S.map Prod.snd)[i]? =some (t.ns.take k):=by
  rw[hS];unfold jx;rw[RO (by simp;omega)];simp only[Rq,KW];rw[show i-min i c.tk.length=0 by omega,Rz,SZ,T7,ht];rfl
 have h2:p.2=t.ns.take k:=by rw[Rz,hp]at h1;exact SC h1
 rw[map_set,h2,hS];unfold jx;have e1:c.tk.drop i=t::c.tk.drop (i+1):=by
  rw[SP hi];congr 1;exact(IN.1 ht).2
 have hln:((c.tk.take i).map λ t=>t.ns.take (k+1)).length=i:=by simp;omega
 rw[e1,aj ht,Sg,Si,V5,KV,Sf _ _ (by omega),hln,Se,aj hvt];rfl
def B8(l:List Nat):Prop:=∀ x∈l,x<256
theorem B8.app{l m:List Nat}(h:B8 l)(k:B8 m):B8 (l++m):=λ x hx=>(RE.1 hx).elim (h x) (k x)
def B8.fm{α:Type}{f:α->List Nat}{l:List α}(h:∀ x∈l,B8 (f x)):B8 (l.flatMap f):=λ y hy=>by
 obtain⟨x,hx,hy⟩:=Tq.1 hy;exact h x hx y hy
def gn(n:Nat):B8 (uv n):=de n
def tt(s:ByteArray):B8 (ct s):=(gn _).app (lD s)
def IC{l:List Nat}(h:B8 l):B8 (la l):=(gn _).app h
def MA(ps:List Pr):B8 (qj ps):=(gn _).app (B8.fm λ p _=>(tt _).app (tt _))
def oq{l:List Nat}(h:B8 l):B8 (aN l):=h.app (o6 _)
def ID:∀ (l:List mr) (z:Int),B8 (fX z l)
 |[],_=>λ x hx=>by cases hx
 |x::l,z=>((tt _).app ((gn _).app ((gn _).app (MA _)))).app (ID l _)
def NU{X:List ByteArray->List Nat}{T:List Nat->List Nat}(hX:∀ u,B8 (X u))(hT:∀ l,B8 (T l))(a:ByteArray×Bool)(vs:List ByteArray):B8 (kz X T a vs):=
 (tt _).app ((gn _).app ((IC (hX _)).app ((IC (hT _)).app (B8.fm λ n _=>IC (oq (j2 _))))))
def BO{X:List ByteArray->List Nat}{T:List Nat->List Nat}(hX:∀ u,B8 (X u))(hT:∀ l,B8 (T l))(c:pE):B8 (kc X T c):=by
 refine B8.app (λ x hx=>?_) ((gn _).app ((B8.fm λ i _=>NU hX hT _ _).app ((gn _).app ((B8.fm λ x _=>(tt _).app ((gn _).app (MA _))).app ((gn _).app ((ID _ _).app ((gn _).app ((B8.fm λ x _=>(tt _).app ((gn _).app ((gn _).app (gn _)))).app ((gn _).app (B8.fm λ x _=>(gn _).app (tt _)))))))))));simp only[Rx,RF,Sa]at hx;omega
def Lw{ns:List Nat}(h:ns.length<=4096)(k:Nat):(u9 ns k).length<=40020*k:=by
 have:=tq (f:=λ n=>la (aN (mQ (dz ns n)))) (B:=40020) (List.range k) λ n _=>by
  have h1:=ka (kb n h);have h2:=aC (aN (mQ (dz ns n))).length;unfold la;rw[sp,bQ]at*;omega
 rwa[Ux]at this
def IE:∀ {l:List mr} {z:Int} {k:Nat} {x:mr},OU z l->l[k]? =some x->Mu z (l.take k)<=x.2.1
 |[],_,_,_,_,h=>by simp at h
 |y::l,z,0,x,h,hx=>by
  have e:y=x:=by simpa using hx
  subst e;exact h.1
 |y::l,z,k+1,x,h,hx=>IE (l:=l) (z:=y.2.1) (k:=k) h.2 (by simpa using hx)
def vT{X:List ByteArray->List Nat}{T:List Nat->List Nat}{c:Co}{k:Nat}{x:ByteArray×Bool}(hx:c.at_[k]? =some x):fe X T c.v.at_ c.v.tk (k+1)=fe X T c.v.at_ c.v.tk k++kz X T x (cx c k):=by
 unfold fe;rw[xq,BM,show c.v.at_.getD k (ByteArray.empty,false)=x by rw[KP,show c.v.at_=c.at_ from Y,hx];rfl]
def ot(X:List ByteArray->List Nat)(T:List Nat->List Nat)(c:Co):kc X T c.v=[67,83,49]++(uv c.at_.length++(fe X T c.v.at_ c.v.tk c.at_.length++(uv c.tx.length++(c.tx.flatMap (λ x=>im x.v)++(uv c.rg.length++(fX 0 (c.rg.map Iv.v)++Fy c.nd c.hd c.rl)))))):=by
 have e1:c.v.tx.length=c.tx.length:=Rq ..;have e2:c.v.rg.length=c.rg.length:=Rq ..;have e3:c.v.tx.flatMap im=c.tx.flatMap λ x=>im x.v:=VP ..;unfold kc Fy;rw[e1,e2,e3];rfl
def xu{bf:Int}{x:mr}(h:x.1.size<=32)(hp:okPs x.2.2.2):(Mt bf x).length<=2000:=by
 have h1:=bS x.1;have h2:=lY hp;have h3:=aC (x.2.1-bf).toNat;have h4:=aC (x.2.2.1-x.2.1).toNat;unfold Mt;simp only[sp];omega
def xv{x:mr}(h:x.1.size<=32)(hp:okPs x.2.2.2):(im x).length<=2000:=by
 have h1:=bS x.1;have h2:=lY hp;have h4:=aC (x.2.2.1-x.2.1).toNat;unfold im;simp only[sp];omega
def Dd{n:Nat}{c:Co}(h:OkC n c)(hn:n<=3):(Fy c.nd c.hd c.rl).length<=100000:=by
 have h1:=tq (f:=tf) (B:=80) c.nd λ x hx=>by
  have h2:=bt (h.nd.el x hx).1;have h3:=bS x.nm;have h4:=aC (x.p+1).toNat;have h5:=aC x.b.toNat;have h6:=aC (x.e-x.b).toNat;unfold tf;simp only[sp];omega
 have h2:=tq (f:=tJ) (B:=80) (c.hd.zip c.rl) λ x hx=>by
  obtain⟨i,hi⟩:=Sd hx;rw[UJ]at hi;have h3:=(h.Qt hn hi.1 hi.2).2.2;have h4:=bS x.2;have h5:=aC (x.1+1).toNat;unfold tJ;simp only[sp];omega
 have h3:=h.nnd;have h4:=h.Jd hn;have h5:=aC c.nd.length;have h6:=aC c.hd.length;rw[length_zip]at h2;unfold Fy;simp only[sp];omega
