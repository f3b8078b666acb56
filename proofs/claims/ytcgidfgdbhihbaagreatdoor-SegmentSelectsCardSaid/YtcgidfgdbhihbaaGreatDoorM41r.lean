/-
 M41r:bytes read back,at any bytes;and what comes out where they agree with the bytes of something good. No program in sight.
-/
import Derived.Test.YtcgidfgdbhihbaaGreatDoorMst
import Derived.Test.YtcgidfgdbhihbaaGreatDoorF16t
open List renaming length→I,take→J,drop→ww
open ByteArray renaming empty→wt
set_option linter.all false
open Go.Proofs.YtcgidfgdbhihbaaGreatDoor
open List hiding any lt
namespace Go.Kw
def Agr(l s:List Nat):Prop:=(∃ t,s=l++t)\/∃ t,l=s++t
theorem Agr.refl(l:List Nat):Agr l l:=.inl ⟨[],bw⟩
theorem Agr.cut{x l s:List Nat}(h:Agr l (x++s)):(∃ r,l=x++r/\Agr r s)\/∃ t,x=l++t/\t≠[]:=by
 rcases h with⟨t,h⟩|⟨t,h⟩
 ·rcases append_eq_append_iff.1 h with⟨a,H,d⟩|⟨a,H,d⟩
  ·exact .inl ⟨a,H,.inl ⟨t,d⟩⟩
  ·by_cases e:a=[]
   ·subst e;exact .inl ⟨[],by simpa using H.symm,.inl ⟨s,Y⟩⟩
   ·exact .inr ⟨a,H,e⟩
 ·exact .inl ⟨s++t,by rw[h,KW],.inr ⟨t,Y⟩⟩
def yM{l s:List Nat}{n:Nat}(j:∀ y∈l,y<256)(o:n<=1073741824)(h:Agr l (uv n++s))(k:(b9 true l 1073741824).2.1=true):(b9 true l 1073741824).1=n/\Agr (b9 true l 1073741824).2.2 s:=by
 rcases h.cut with⟨r,rfl,p⟩|⟨t,ht,hne⟩
 ·rw[iK O o];exact⟨Y,p⟩
 ·exfalso;unfold b9 at k;split at k
  ·cases k
  ·rename_i hq
   have H:(iJ l).2.2=0:=Yx λ q=>hq (.inr (.inl q));obtain⟨E,d⟩:=NF j H;have g:uv n++[]=uv (iJ l).1++(l.drop (iJ l).2.1++t):=by rw[<-KW,<-E,Yr];exact ht
   have i:=(SZ O d g).2;exact hne (append_eq_nil_iff.1 i.symm).2
def lD(ok:Bool)(l:List Nat):List Nat×Bool×List Nat:=
 if(b9 ok l 1073741824).2.1=false\/I (b9 ok l 1073741824).2.2<(b9 ok l 1073741824).1 then([],false,(b9 ok l 1073741824).2.2)
 else((b9 ok l 1073741824).2.2.take (b9 ok l 1073741824).1,true,(b9 ok l 1073741824).2.2.drop (b9 ok l 1073741824).1)
def uF{ok:Bool}{l:List Nat}{lim:Nat}(h:ok=false):b9 ok l lim=(0,false,l):=by unfold b9;rw[Xp (.inl h)]
def EW{ok:Bool}{l:List Nat}(h:ok=false):lD ok l=([],false,l):=by
 have e:=uF (l:=l) (lim:=1073741824) h;unfold lD;rw[e,Xp (.inl Y)]
def EX(ok:Bool)(l:List Nat):I (lD ok l).2.2<=I l/\I (lD ok l).1<=I l:=by
 have h:=j8 ok l 1073741824;unfold lD;split
 ·exact⟨h,KD _⟩
 ·simp only[XD,Xo];omega
def EY(ok:Bool)(l:List Nat):(∀ x∈(lD ok l).2.2,x∈l)/\∀ x∈(lD ok l).1,x∈l:=by
 have h:=eE ok l 1073741824;unfold lD;split
 ·exact⟨h,λ x H=>by cases H⟩
 ·exact⟨λ x H=>h x (Yf H),λ x H=>h x (XX H)⟩
def L9{l s m:List Nat}(i:∀ y∈l,y<256)(o:I m<=1073741824)(h:Agr l (mB m++s))(k:(lD true l).2.1=true):(lD true l).1=m/\Agr (lD true l).2.2 s:=by
 unfold lD at k⊢;split at k
 ·cases k
 ·rename_i hq
  have H:(b9 true l 1073741824).2.1=true:=by
   cases j:(b9 true l 1073741824).2.1 with
   |false=>exact absurd (.inl j) hq
   |true=>rfl
  have g:(b9 true l 1073741824).1<=I (b9 true l 1073741824).2.2:=ZG λ q=>hq (.inr q);unfold mB at h;rw[KW]at h;obtain⟨E,d⟩:=yM i o h H;rw[Xn hq];simp only;rw[E]at g⊢;rcases d.cut with⟨r,p,u⟩|⟨t,ht,hne⟩
  ·rw[p];exact⟨bw,by simpa using u⟩
  ·exfalso;have:=If List.length ht;rw[AT]at this;have w:0<I t:=a1g.2 hne;omega
def ke{S α:Type}(ok:S->Bool)(f:S->α×S):Nat->S->List α×S
 |0,s=>([],s)
 |n+1,s=>if ok s=true then((f s).1::(ke ok f n (f s).2).1,(ke ok f n (f s).2).2)else([],s)
section
variable {S α:Type} {ok:S->Bool} {f:S->α×S}
def EZ{n:Nat}{s:S}(h:ok s=false):ke ok f n s=([],s):=by
 cases n with
 |zero=>rfl
 |succ n=>rw[ke,Xn (by rw[h];simp)]
def Bt{n:Nat}{s:S}(h:ok s=true):ke ok f (n+1) s=((f s).1::(ke ok f n (f s).2).1,(ke ok f n (f s).2).2):=by rw[ke,Xp h]
end
abbrev RS:=Bool×List Nat
def aW(s:RS):Nat×RS:=b9 s.1 s.2 1073741824
def aU(s:RS):ByteArray×RS:=(strOf (lD s.1 s.2).1,(lD s.1 s.2).2)
def uG(s:RS):Pr×RS:=(((aU s).1,(aU (aU s).2).1),(aU (aU s).2).2)
def rN(s:RS):List Pr×RS:=ke Prod.fst uG (aW s).1 (aW s).2
def Du(s:RS×Nat):nI×(RS×Nat):=
 let a:=aU s.1;let n:=aW a.2;let p:=rN n.2
 ((a.1,(s.2:Int),((s.2+n.1:Nat):Int),p.1),(p.2,s.2+n.1))
def Bu(s:RS×Nat):nI×(RS×Nat):=
 let a:=aU s.1;let n:=aW a.2;let e:=aW n.2;let p:=rN e.2
 ((a.1,((s.2+n.1:Nat):Int),((s.2+n.1+e.1:Nat):Int),p.1),(p.2,s.2+n.1))
def La(s:RS):Nd×RS:=
 let a:=aU s;let p:=aW a.2;let b:=aW p.2;let e:=aW b.2
 (⟨a.1,(b.1:Int),((b.1+e.1:Nat):Int),(p.1:Int)-1⟩,e.2)
def F0(s:RS):(Int×ByteArray)×RS:=((((aW s).1:Int)-1,(aU (aW s).2).1),(aU (aW s).2).2)
def zx(p:RS×Nat):Bool:=p.1.1
def eD(s:RS)(a:Nat):List nI×(RS×Nat):=ke zx Du (aW s).1 ((aW s).2,a)
def eW(s:RS)(a:Nat):List nI×(RS×Nat):=ke zx Bu (aW s).1 ((aW s).2,a)
def fL(s:RS):List Nd×RS:=ke Prod.fst La (aW s).1 (aW s).2
def ig(s:RS):List (Int×ByteArray)×RS:=ke Prod.fst F0 (aW s).1 (aW s).2
structure RB(s:RS):Prop where
 lt:∀ x∈s.2,x<256
 len:I s.2<=1000000000
theorem RB.nm{s:RS}(h:RB s):RB (aW s).2:=⟨λ x H=>h.lt x (eE _ _ _ x H),XL (j8 _ _ _) h.len⟩
def RB.tx{s:RS}(h:RB s):RB (aU s).2:=⟨λ x H=>h.lt x ((EY _ _).1 x H),XL (EX _ _).1 h.len⟩
def pR{S α:Type}{ok:S->Bool}{f:S->α×S}{Q:S->Prop}(H:∀ s,Q s->Q (f s).2):∀ (n:Nat) (s:S),Q s->Q (ke ok f n s).2
 |0,s,h=>h
 |n+1,s,h=>by
  rw[ke];split
  ·exact pR H n _ (H s h)
  ·exact h
def RB.Xf{s:RS}(h:RB s):RB (uG s).2:=h.tx.tx
def RB.pr{s:RS}(h:RB s):RB (rN s).2:=pR (Q:=RB) (λ _ h=>h.Xf) _ _ h.nm
def RB.dc{s:RS}(h:RB s)(a:Nat):RB (Du (s,a)).2.1:=h.tx.nm.pr
def RB.rg{s:RS}(h:RB s)(a:Nat):RB (Bu (s,a)).2.1:=h.tx.nm.nm.pr
def RB.nd{s:RS}(h:RB s):RB (La s).2:=h.tx.nm.nm.nm
def RB.he{s:RS}(h:RB s):RB (F0 s).2:=h.nm.tx
def RB.WV{s:RS}(h:RB s)(a:Nat):RB (eD s a).2.1:=pR (Q:=λ p:RS×Nat=>RB p.1) (λ p h=>h.dc p.2) _ _ h.nm
def RB.Xc{s:RS}(h:RB s)(a:Nat):RB (eW s a).2.1:=pR (Q:=λ p:RS×Nat=>RB p.1) (λ p h=>h.rg p.2) _ _ h.nm
def RB.Xm{s:RS}(h:RB s):RB (fL s).2:=pR (Q:=RB) (λ _ h=>h.nd) _ _ h.nm
def fy(s:RS):(aW s).1<=1073741824:=nk _ _ _
def pS{S α:Type}{ok:S->Bool}{f:S->α×S}{n:Nat}{s:S}(h:ok s=true)(H:0<n):ke ok f n s=((f s).1::(ke ok f (n-1) (f s).2).1,(ke ok f (n-1) (f s).2).2):=by
 obtain⟨m,rfl⟩:∃ m,n=m+1:=⟨n-1,O⟩;exact Bt h
def pT{S α:Type}{ok:S->Bool}{f:S->α×S}{n:Nat}{s:S}(h:¬ (0<n/\ok s=true)):ke ok f n s=([],s):=by
 cases n with
 |zero=>rfl
 |succ n=>rw[ke,Xn λ q=>h ⟨O,q⟩]
def yN{s:RS}(h:(aU s).2.1=false):bL (aU s).1=[]:=by
 have e:(lD s.1 s.2).1=[]:=by
  have H:(lD s.1 s.2).2.1=false:=h;unfold lD at H⊢;split
  ·rfl
  ·rename_i hq;rw[Xn hq]at H;cases H
 show bL (strOf (lD s.1 s.2).1)=[];rw[e];rfl
def Dv(s:RS):(aU s).1.size<=I s.2:=by
 show(strOf (lD s.1 s.2).1).size<=_;rw[cA];exact(EX _ _).2
def P9{s:RS}(h:s.1=false):(aU s).2.1=false:=by
 have e:=EW (l:=s.2) h;show(lD s.1 s.2).2.1=false;rw[e]
def At(X:Bool)(s:RS)(r:List Nat):Prop:=(s.1=true->(∀ y∈s.2,y<256)/\Agr s.2 r)/\(X=true->s=(true,r))
def At.off{X:Bool}{s:RS}{r R:List Nat}(h:At X s r)(h0:s.1=false):At X s R:=
 ⟨λ q=>(by rw[h0]at q;cases q),λ q=>(by have:=h.2 q;rw[this]at h0;cases h0)⟩
def jx{X:Bool}{s:RS}{r:List Nat}{n:Nat}(h:At X s (uv n++r))(d:n<=1073741824):At X (aW s).2 r/\((aW s).2.1=true->s.1=true/\(aW s).1=n):=by
 have g:X=true->(aW s).2=(true,r):=λ q=>by
  rw[h.2 q];show(b9 true (uv n++r) 1073741824).2=_;rw[iK O d]
 obtain⟨ok,l⟩:=s;cases ok with
 |false=>
  have e:aW (false,l)=(0,false,l):=uF Y;rw[e]at g⊢;exact⟨⟨λ q=>a2H,g⟩,λ q=>a2H⟩
 |true=>
  obtain⟨H,i⟩:=h.1 Y;exact⟨⟨λ q=>⟨λ y j=>H y (eE _ _ _ y j),(yM H d i q).2⟩,g⟩,λ q=>⟨Y,(yM H d i q).1⟩⟩
theorem iV(a:ByteArray):strOf (bL a)=a:=by
 apply BO;unfold bL strOf;simp only[ZT,toList_toArray];rw[show(λ b:UInt8=>b.toNat)∘(λ n=>UInt8.ofNat n)∘(λ b:UInt8=>b.toNat)=λ b=>b.toNat from by
  funext b;show(UInt8.ofNat b.toNat).toNat=b.toNat;rw[UInt8.ofNat_toNat]]
def SE{m r:List Nat}(H:I m<=1073741824):lD true (mB m++r)=(m,true,r):=by
 unfold mB lD;rw[KW,iK O H,Xn (show¬ (true=false\/I (m++r)<I m)from λ q=>by rcases q with q|q;cases q;rw[AT]at q;omega)];simp
def yO{X:Bool}{s:RS}{r m:List Nat}(h:At X s (mB m++r))(g:I m<=1073741824):At X (lD s.1 s.2).2 r/\((lD s.1 s.2).2.1=true->s.1=true/\(lD s.1 s.2).1=m):=by
 have H:X=true->(lD s.1 s.2).2=(true,r):=λ q=>by
  rw[h.2 q];show(lD true (mB m++r)).2=_;rw[SE g]
 obtain⟨ok,l⟩:=s;cases ok with
 |false=>
  have e:lD false l=([],false,l):=EW Y;show At X (lD false l).2 r/\((lD false l).2.1=true->false=true/\(lD false l).1=m)
  replace H:X=true->(lD false l).2=(true,r):=H
  rw[e]at H⊢;exact⟨⟨λ q=>a2H,H⟩,λ q=>a2H⟩
 |true=>
  obtain⟨d,i⟩:=h.1 Y;exact⟨⟨λ q=>⟨λ y j=>d y ((EY _ _).1 y j),(L9 d g i q).2⟩,H⟩,λ q=>⟨Y,(L9 d g i q).1⟩⟩
def uH{X:Bool}{s:RS}{r:List Nat}{a:ByteArray}(h:At X s (cI a++r))(i:a.size<=1073741824):At X (aU s).2 r/\((aU s).2.1=true->s.1=true/\(aU s).1=a):=by
 have e:cI a=mB (bL a):=by unfold cI mB;rw[aB]
 rw[e]at h;obtain⟨H,g⟩:=yO h (by rw[aB];exact i);refine⟨H,λ q=>?_⟩;obtain⟨A,d⟩:=g q;refine⟨A,?_⟩;show strOf (lD s.1 s.2).1=a;rw[d,iV]
def qV{S α β:Type}{ok:S->Bool}{f:S->α×S}{val:α->β}{okb:β->Prop}{G:List β->S->Prop}(h0:∀ s l,ok s=false->G l s->G [] s)(H:∀ s x l,okb x->G (x::l) s->G l (f s).2/\(ok (f s).2=true->ok s=true/\val (f s).1=x)):∀ (X:List β) (s:S),(∀ x∈X,okb x)->G X s->G [] (ke ok f (I X) s).2/\(ok (ke ok f (I X) s).2=true->ok s=true/\(ke ok f (I X) s).1.map val=X)
 |[],s,_,h=>⟨h,λ q=>⟨q,Y⟩⟩
 |x::X,s,hx,h=>by
  rw[No];cases o:ok s with
  |false=>rw[EZ o];exact⟨h0 s _ o h,λ q=>(by rw[o]at q;cases q)⟩
  |true=>
   rw[Bt o];obtain⟨g,d⟩:=H s x X (hx x bw) h;obtain⟨k,K⟩:=qV h0 H X (f s).2 (λ y i=>hx y a0V) g;refine⟨k,λ q=>⟨Y,?_⟩⟩;obtain⟨Q,j⟩:=K q;show((f s).1::(ke ok f (I X) (f s).2).1).map val=_;rw[XZ,(d Q).2,j]
def uI{S α β:Type}{ok:S->Bool}{f:S->α×S}{val:α->β}{G:List β->S->Prop}(h0:∀ s l,ok s=false->G l s->G [] s){X:List β}{m:Nat}{s:S}(d:ok s=true->m=I X)(H:G X s)(h:G [] (ke ok f (I X) s).2/\(ok (ke ok f (I X) s).2=true->ok s=true/\(ke ok f (I X) s).1.map val=X)):G [] (ke ok f m s).2/\(ok (ke ok f m s).2=true->ok s=true/\(ke ok f m s).1.map val=X):=by
 cases o:ok s with
 |false=>rw[EZ o];exact⟨h0 s _ o H,λ q=>(by rw[o]at q;cases q)⟩
 |true=>rw[d o];exact⟨h.1,λ q=>⟨Y,(h.2 q).2⟩⟩
def WC(p:Pr):Prop:=p.1.size<=1073741824/\p.2.size<=1073741824
def Qq{X:Bool}{s:RS}{r:List Nat}{ps:List Pr}(h:At X s (rS ps++r))(E:I ps<=1073741824)(N:∀ p∈ps,WC p):At X (rN s).2 r/\((rN s).2.1=true->s.1=true/\(rN s).1=ps):=by
 unfold rS at h;rw[KW]at h;obtain⟨d,i⟩:=jx h E;let G:List Pr->RS->Prop:=λ l s=>At X s ((l.flatMap λ p:Pr=>cI p.1++cI p.2)++r);have H:∀ (s:RS) (l:List Pr),s.1=false->G l s->G [] s:=λ s l q g=>At.off g q;have k:=uI (f:=uG) (val:=id) (G:=G) H (m:=(aW s).1) (λ q=>(i q).2) d (qV (ok:=Prod.fst) (f:=uG) (val:=id) (okb:=WC) H (λ s x l j g=>by
  have D:At X s (cI x.1++(cI x.2++((l.flatMap λ p:Pr=>cI p.1++cI p.2)++r))):=by
   have e:((x::l).flatMap λ p:Pr=>cI p.1++cI p.2)++r=cI x.1++(cI x.2++((l.flatMap λ p:Pr=>cI p.1++cI p.2)++r)):=by rw[Zs];simp only[KW]
   rw[<-e];exact g
  obtain⟨A,o⟩:=uH D j.1;obtain⟨t,u⟩:=uH A j.2;refine⟨t,λ q=>?_⟩;obtain⟨w,y⟩:=u q;obtain⟨d1,d2⟩:=o w;exact⟨d1,ZR d2 y⟩) ps (aW s).2 N d)
 refine⟨k.1,λ q=>?_⟩;obtain⟨P,K⟩:=k.2 q;exact⟨(i P).1,by rw[map_id]at K;exact K⟩
def v4{x y:Iv}(h:x.v=y.v):x.nm=y.nm/\x.b=y.b/\x.e=y.e/\x.ps=y.ps:=
 ⟨If (λ q:nI=>q.1) h,If (λ q:nI=>q.2.1) h,If (λ q:nI=>q.2.2.1) h,If (λ q:nI=>q.2.2.2) h⟩
def pU{l m:List Iv}(h:l.map Iv.v=m.map Iv.v){i:Nat}{x:Iv}(d:m[i]? =some x):∃ y,l[i]? =some y/\y.v=x.v:=by
 have e:=If (·[i]?) h;simp only[XF,d,Z6]at e;cases H:l[i]? with
 |none=>rw[H]at e;cases e
 |some y=>rw[H]at e;exact⟨y,Y,Y8 e⟩
def xE{l m:List Iv}(h:l.map Iv.v=m.map Iv.v){x:Iv}(d:x∈m):∃ y,y∈l/\y.v=x.v:=by
 obtain⟨i,H⟩:=Y9 d;obtain⟨y,g,e⟩:=pU h H;exact⟨y,Xs g,e⟩
def F5{l m:List Iv}(h:l.map Iv.v=m.map Iv.v):I l=I m:=by simpa using If List.length h
def SF{x y p q:Iv}(h:x.v=p.v)(k:y.v=q.v):fk x y=fk p q:=by
 obtain⟨H,d,g,i⟩:=v4 h;obtain⟨K,j,l,o⟩:=v4 k;unfold fk;rw[H,d,g,i,K,j,l,o]
def Qr{l m:List Iv}(h:l.map Iv.v=m.map Iv.v){b e:Int}(i:inT l b e):inT m b e:=by
 obtain⟨t,j,H⟩:=i;obtain⟨y,k,E⟩:=xE h.symm j;obtain⟨_,d,g,_⟩:=v4 E;exact⟨y,k,by rw[d,g];exact H⟩
def SG{n:Int}{l m:List Iv}(h:l.map Iv.v=m.map Iv.v)(k:okTx n l):okTx n m where
 nm x hx:=by
  obtain⟨y,g,e⟩:=xE h hx;obtain⟨q,r,t,u⟩:=v4 e;have:=k.nm y g;rwa[q,r,t,u]at this
 nd i j x y hx g hij:=by
  obtain⟨X,H,E⟩:=pU h hx;obtain⟨p,d,o⟩:=pU h g;rw[<-(v4 E).1,<-(v4 o).1];exact k.nd i j X p H d hij
 first x hx:=by
  obtain⟨X,H,E⟩:=pU h hx;rw[<-(v4 E).2.1];exact k.first X H
 next i x y hx g:=by
  obtain⟨X,H,E⟩:=pU h hx;obtain⟨p,d,o⟩:=pU h g;rw[<-(v4 E).2.2.1,<-(v4 o).2.1];exact k.next i X p H d
 last i x hx hi:=by
  obtain⟨X,H,E⟩:=pU h hx;rw[<-(v4 E).2.2.1];exact k.last i X H (by rw[F5 h];exact hi)
 none_:=by
  rw[<-k.none_,<-a0l,<-a0l,F5 h]
def V4{x y p q:Iv}(h:x.v=p.v)(k:y.v=q.v)(H:noX x y):noX p q:=by
 obtain⟨d,g,i,_⟩:=v4 h;obtain⟨K,j,l,_⟩:=v4 k;unfold noX at H⊢;rw[d,g,i,K,j,l]at H;exact H
def OkC.VJ{k:Nat}{c d:Co}(h:OkC k c)(e:c.v=d.v):OkC k d:=by
 have eA:c.at_=d.at_:=If oL.at_ e;have T:c.tk.map (·.ns)=d.tk.map (·.ns):=If oL.tk e;have X:c.tx.map Iv.v=d.tx.map Iv.v:=If oL.tx e;have R:c.rg.map Iv.v=d.rg.map Iv.v:=If oL.rg e;have N:c.nd=d.nd:=If oL.nd e;have p:c.hd=d.hd:=If oL.hd e;have w:c.rl=d.rl:=If oL.rl e;have l:I c.tk=I d.tk:=by simpa using If List.length T
 refine⟨eA▸h.at_,λ t r=>?_,λ t r=>?_,l▸SG X h.tx,⟨λ x H=>?_,λ i x y H j=>?_,λ x H y j=>?_⟩,⟨λ x H=>?_,N▸h.nd.par,N▸h.nd.sib⟩,?_,by rw[<-l];exact h.ntk,by rw[<-F5 X];exact h.ntx,by rw[<-F5 R];exact h.nrg,by rw[<-N];exact h.nnd⟩
 ·have Q:t.ns∈c.tk.map (·.ns):=by rw[T];exact Ye r
  obtain⟨u,W,E⟩:=Y7.1 Q;exact E▸h.voc u W
 ·have Q:t.ns∈c.tk.map (·.ns):=by rw[T];exact Ye r
  obtain⟨u,W,E⟩:=Y7.1 Q;have:=h.tk u W;rw[E]at this;rw[<-eA];exact this
 ·obtain⟨y,j,E⟩:=xE R H;obtain⟨a1,A,D,a4⟩:=v4 E;obtain⟨b1,b2,b3⟩:=h.rg.el y j;rw[a1]at b1;rw[a4]at b3;rw[A,D]at b2;exact⟨b1,Qr X b2,b3⟩
 ·obtain⟨x',g,K⟩:=pU R H;obtain⟨y',o,P⟩:=pU R j;rw[<-SF K P];exact h.rg.asc i x' y' g o
 ·obtain⟨x',g,K⟩:=xE R H;obtain⟨y',o,P⟩:=xE R j;exact V4 K P (h.rg.nox x' g y' o)
 ·have:=h.nd.el x (by rw[N];exact H);exact⟨this.1,Qr X this.2⟩
 ·rcases h.hd with⟨a,b⟩|a
  ·exact .inl ⟨p▸a,w▸b⟩
  ·refine .inr ⟨by rw[<-l,<-p,<-w];exact a.len,p▸w▸a.bare,λ i x H=>?_,w▸a.nm,p▸a.rk⟩;rcases a.el i x (by rw[p];exact H)with q|⟨t,r,q⟩
   ·exact .inl q
   ·obtain⟨y,j,E⟩:=xE X.symm r;obtain⟨_,A,D,_⟩:=v4 E;exact .inr ⟨y,j,by rw[A,D];exact q⟩
def j4{l:List Nat}(h:∀ x∈l,x<256):bL (strOf l)=l:=by
 unfold bL strOf;simp only[ZT,toList_toArray];rw[Zl (g:=id) (λ x H=>by
  show(UInt8.ofNat x).toNat=x;rw[UInt8.toNat_ofNat'];exact XN (h x H)),map_id]
def iP{l:List Nat}(h:∀ x∈l,x<256):cI (strOf l)=mB l:=by
 unfold cI mB;rw[j4 h,cA]
def jy{α:Type}{f:α->List Nat}{l:List α}{k:Nat}{x:α}(H:l[k]? =some x):(J (k+1) l).flatMap f=(J k l).flatMap f++f x:=by rw[ao H,a0q];simp
def uJ{α:Type}{f:α->List Nat}{B:Nat}:∀ (l:List α),(∀ x∈l,I (f x)<=B)->I (l.flatMap f)<=B*I l
 |[],_=>by simp
 |x::l,h=>by
  have d:=h x bw;have g:=uJ l λ y H=>h y zc;rw[Zs,AT,No,Nat.mul_succ];omega
def yP{f:Nat->List Nat}(k:Nat):(List.range (k+1)).flatMap f=(List.range k).flatMap f++f k:=by rw[YK,a0q];simp
def cg(s:ByteArray):I (cI s)<=s.size+10:=by unfold cI;have:=aF s.size;rw[AT,aB];omega
def F6{ps:List Pr}(h:okPs ps){k:Nat}{p:Pr}(d:ps[k]? =some p):p.1.size<=32/\p.2.size<=120:=by
 have H:=h.2.1 p (Xs d);exact⟨bD H.1,jE H.2⟩
def na{ps:List Pr}(h:okPs ps):I (rS ps)<=1600:=by
 have i:=uJ (f:=λ p:Pr=>cI p.1++cI p.2) (B:=172) ps λ p g=>by
  have H:=h.2.1 p g;have j:=bD H.1;have k:=jE H.2;have l:=cg p.1;have o:=cg p.2;rw[AT];omega
 have q:=aF (I ps);have d:=h.1;unfold rS;rw[AT];have r:172*I ps<=172*8:=a0w _ d;omega
def OkC.Mz{n:Nat}{c:Co}(h:OkC n c)(H:n<=4):I c.hd=I c.rl/\I c.hd<=48:=by
 rcases h.hd with⟨a,b⟩|a
 ·rw[a,b];exact⟨Y,KD _⟩
 ·have:=a.len;have:=h.ntk;omega
def OkC.Wg{n:Nat}{c:Co}(h:OkC n c)(i:n<=4){k:Nat}{x:Int}{s:ByteArray}(H:c.hd[k]? =some x)(d:c.rl[k]? =some s): -1<=x/\x<=48/\s.size<=32:=by
 have g:=h.ntk;rcases h.hd with⟨a,b⟩|a
 ·rw[a]at H;simp at H
 ·have Q:=a.nm s (Xs d);have q:s.size<=32:=by
   rcases Q with e|e
   ·rw[e];exact KD _
   ·exact bD e
  rcases a.el k x H with e|⟨t,ht,e⟩
  ·exact⟨O,O,q⟩
  ·have:=h.tx.nm t ht;exact⟨O,O,q⟩
def F7{α β:Type}{l:List α}{m:List β}{k:Nat}{x:α}{y:β}(H:l[k]? =some x)(d:m[k]? =some y):(l.zip m)[k]? =some (x,y):=by rw[a03];exact⟨H,d⟩
def HX(nd:List Nd)(hd:List Int)(r:List ByteArray):List Nat:=uv (I nd)++(nd.flatMap vj++(uv (I hd)++(hd.zip r).flatMap vM))
def ga(c:Co)(a:Nat):List ByteArray:=c.tk.map λ t=>t.ns.getD a wt
def Lb:∀ {vs:List ByteArray},(∀ v∈vs,v.size<=120/\dA v=true)->fX vs=0
 |[],_=>rfl
 |v::r,h=>by
  have H:=h v bw;unfold fX;rw[Xn O,Xn (by rw[H.2];simp),Lb λ x d=>h x a1P]
def Dw{s:ByteArray}(h:jJ s=true):dA s=true:=by
 unfold jJ at h;simp only[Xz]at h;exact h.2.1
def Bv{n:Nat}{c:Co}(h:OkC n c){a:Nat}(H:a<I c.at_){v:ByteArray}(g:v∈ga c a):v.size<=120/\dA v=true:=by
 obtain⟨t,d,rfl⟩:=Y7.1 g;have q:=h.tk t d;rw[KV,py (by omega:a<I t.ns)];have:=(q.2 a _ _ (py (by omega:a<I t.ns)) (py H)).val;exact⟨jE this,Dw this⟩
def mg(c:Co)(a:Nat):I (ga c a)=I c.tk:=by unfold ga;rw[Xu]
def sI{n:Nat}{c:Co}(h:OkC n c)(k:n<=4){a:Nat}(d:a<I c.at_):dW (ga c a)=0/\Vc (ga c a):=by
 have g:=h.ntk;have i:=mg c a;have j:=bZ (ga c a);refine⟨?_,⟨O,h.VP a⟩,λ v H=>(Bv h d H).1⟩;unfold dW;rw[Xn O,Lb λ v H=>Bv h d H,Xn bw,Xn O]
def qW{c:Co}{a k:Nat}{t:Tk}{v:ByteArray}(H:c.tk[k]? =some t)(d:t.ns[a]? =some v):(J (k+1) c.tk).map (λ t=>t.ns.getD a wt)=(J k c.tk).map (λ t=>t.ns.getD a wt)++[v]:=by
 rw[ao H,Y0,a1p,KV,d,YZ]
def Dx(c:Co)(a:Nat):(c.v.tk.map λ t=>t.getD a wt)=ga c a:=by
 show(c.tk.map (·.ns)).map (λ t=>t.getD a wt)=_;rw[ZT];rfl
def Bw{N:List Nat}{S:List (SV×List Nat)}{m k x:Nat}{p:SV×List Nat}{sv:SV}(q:N[k]? =some x)(l:S.map Prod.snd=(List.range m).map (fq (J k N)))(o:S[x]? =some p):(S.set x (sv,p.2++[k])).map Prod.snd=(List.range m).map (fq (J (k+1) N)):=by
 have w:k<I N:=(KC.1 q).1;have y:I S=m:=by simpa using If List.length l
 have i:x<m:=by have:=(KC.1 o).1;omega
 have e:∀ j,j<m->(S.map Prod.snd)[j]? =some (fq (J k N) j):=λ j d=>by rw[l];simp[d]
 have E:p.2=fq (J k N) x:=by have:=e x i;rw[XF,o]at this;exact Y8 this
 apply ZC;intro j;rw[map_set,YQ];have g:J (k+1) N=J k N++[x]:=ao q;have t:I (J k N)=k:=by rw[Xo];omega
 by_cases d:j<m
 ·rw[show((List.range m).map (fq (J (k+1) N)))[j]? =some (fq (J (k+1) N) j) by simp[d],g,HK,t];by_cases H:x=j
  ·subst H;rw[Xp Y,Xp a5e,Xp Y,E]
  ·rw[Xn H,Xn H];exact e j d
 ·have r:((List.range m).map (fq (J (k+1) N)))[j]? =none:=XQ cf;have u:(S.map Prod.snd)[j]? =none:=XQ a5e;rw[r,Xn (show¬ x=j by omega)];exact u
def sJ{N:List Nat}{S:List (SV×List Nat)}{m k:Nat}{p:SV×List Nat}(d:S.map Prod.snd=(List.range m).map (fq N))(i:S[k]? =some p):p.2=fq N k/\k<m:=by
 have l:I S=m:=by simpa using If List.length d
 have g:k<m:=by have:=(KC.1 i).1;omega
 have H:(S.map Prod.snd)[k]? =some (fq N k):=by rw[d];simp[g]
 rw[XF,i]at H;exact⟨Y8 H,g⟩
def sK{l:List Iv}{k:Nat}{x:Iv}(H:l[k]? =some x):gV 0 ((J (k+1) l).map Iv.v)=gV 0 ((J k l).map Iv.v)++QA (QB 0 ((J k l).map Iv.v)) x.v/\QB 0 ((J (k+1) l).map Iv.v)=x.b:=by
 rw[ao H,Y0,a1p,xQ];exact⟨Y,by unfold QB;rw[foldl_append];rfl⟩
def Lc(l:List Nat)(n W:Nat):List Nat:=(List.range' n (W-n)).flatMap λ n=>mB (aQ (oK (fq l n)))
def Ld{l:List Nat}{n W:Nat}(h:n<W):Lc l n W=mB (aQ (oK (fq l n)))++Lc l (n+1) W:=by
 unfold Lc;rw[show W-n=(W-(n+1))+1 by omega,range'_succ,Zs]
def Pa{l:List Nat}{n W:Nat}(h:W<=n):Lc l n W=[]:=by unfold Lc;rw[show W-n=0 by omega];rfl
def Le(l:List Nat)(W:Nat):Lc l 0 W=wj l W:=by unfold Lc wj;rw[range_eq_range'];rfl
def kf(c:Co)(k i:Nat):List (List ByteArray):=((J i c.tk).map λ t=>J (k+1) t.ns)++((ww i c.tk).map λ t=>J k t.ns)
def Dy(c:Co)(k:Nat):kf c k 0=c.tk.map λ t=>J k t.ns:=by simp[kf]
def xF(c:Co)(k i:Nat):I (kf c k i)=I c.tk:=by unfold kf;simp;omega
def HC{n:Nat}{c:Co}(h:OkC n c){k i j:Nat}{x:List ByteArray}(g:(kf c k i)[j]? =some x):I x<=100:=by
 have l:=h.at_.2;have d:=Xs g;unfold kf at d;rcases XE.1 d with q|q
 ·obtain⟨t,H,rfl⟩:=Y7.1 q;have:=(h.tk t (XX H)).1;rw[Xo];omega
 ·obtain⟨t,H,rfl⟩:=Y7.1 q;have:=(h.tk t (Yf H)).1;rw[Xo];omega
def HD{c:Co}{k i:Nat}(h:I c.tk<=i):kf c k i=c.tk.map λ t=>J (k+1) t.ns:=by
 unfold kf;rw[Xx h,Yo h];simp
def V5{c:Co}{m k:Nat}(d:m=I c.tk)(H:k=0):(List.replicate m ((⟨none,0,0⟩:SV),([]:List ByteArray))).map Prod.snd=c.tk.map λ t=>J k t.ns:=by
 subst d;subst H;simp only[map_replicate,a2u];rw[map_const']
def Lg{c:Co}{S:List (SV×List ByteArray)}{k i:Nat}{p:SV×List ByteArray}{sv:SV}{v:ByteArray}(g:S.map Prod.snd=kf c k i)(w:S[i]? =some p)(l:(ga c k)[i]? =some v)(A:∀ t∈c.tk,k<I t.ns):(S.set i (sv,p.2++[v])).map Prod.snd=kf c k (i+1):=by
 have D:I S=I c.tk:=by have:=If List.length g;rwa[Xu,xF]at this
 have u:i<I c.tk:=by have:=(KC.1 w).1;omega
 obtain⟨t,d⟩:=ut c.tk i u;have H:=A t (Xs d);have o:t.ns[k]? =some v:=by
  unfold ga at l;rw[XF,d]at l;have r:t.ns.getD k wt=v:=Y8 l;rw[KV,py H,YZ]at r;rw[py H,r]
 have q:(S.map Prod.snd)[i]? =some (J k t.ns):=by
  rw[g];unfold kf;rw[XP cf];simp only[Xu,Xo];rw[show i-min i (I c.tk)=0 by omega,XF,YI,YP,d];rfl
 have y:p.2=J k t.ns:=by rw[XF,w]at q;exact Y8 q
 rw[map_set,y,g];unfold kf;have E:ww i c.tk=t::ww (i+1) c.tk:=by
  rw[Yl u];congr 1;exact(KC.1 d).2
 have j:I ((J i c.tk).map λ t=>J (k+1) t.ns)=i:=by simp;omega
 rw[E,ao d,XZ,Y0,a1p,KW,Y2 _ _ O,j,Y4,ao o];rfl
def B8(l:List Nat):Prop:=∀ x∈l,x<256
theorem B8.app{l m:List Nat}(h:B8 l)(k:B8 m):B8 (l++m):=λ x H=>(XE.1 H).elim (h x) (k x)
def B8.fm{α:Type}{f:α->List Nat}{l:List α}(h:∀ x∈l,B8 (f x)):B8 (l.flatMap f):=λ y H=>by
 obtain⟨x,d,H⟩:=Z4.1 H;exact h x d y H
def iq(n:Nat):B8 (uv n):=dG n
def uK(s:ByteArray):B8 (cI s):=(iq _).app (mR s)
def Lh{l:List Nat}(h:B8 l):B8 (mB l):=(iq _).app h
def Qt(ps:List Pr):B8 (rS ps):=(iq _).app (B8.fm λ p _=>(uK _).app (uK _))
def pV{l:List Nat}(h:B8 l):B8 (aQ l):=h.app (qh _)
def Li:∀ (l:List nI) (z:Int),B8 (gV z l)
 |[],_=>λ x H=>by cases H
 |x::l,z=>((uK _).app ((iq _).app ((iq _).app (Qt _)))).app (Li l _)
def SH{X:List ByteArray->List Nat}{T:List Nat->List Nat}(d:∀ u,B8 (X u))(H:∀ l,B8 (T l))(a:ByteArray×Bool)(vs:List ByteArray):B8 (lJ X T a vs):=
 (uK _).app ((iq _).app ((Lh (d _)).app ((Lh (H _)).app (B8.fm λ n _=>Lh (pV (jQ _))))))
def Dz{X:List ByteArray->List Nat}{T:List Nat->List Nat}(d:∀ u,B8 (X u))(H:∀ l,B8 (T l))(c:oL):B8 (ji X T c):=by
 refine B8.app (λ x g=>?_) ((iq _).app ((B8.fm λ i _=>SH d H _ _).app ((iq _).app ((B8.fm λ x _=>(uK _).app ((iq _).app (Qt _))).app ((iq _).app ((Li _ _).app ((iq _).app ((B8.fm λ x _=>(uK _).app ((iq _).app ((iq _).app (iq _)))).app ((iq _).app (B8.fm λ x _=>(iq _).app (uK _)))))))))));simp only[Xr,Xq,XA]at g;omega
def Pb{N:List Nat}(h:I N<=4096)(k:Nat):I (wj N k)<=40020*k:=by
 have:=uJ (f:=λ n=>mB (aQ (oK (fq N n)))) (B:=40020) (List.range k) λ n _=>by
  have H:=ly (np n h);have d:=aF (I (aQ (oK (fq N n))));unfold mB;rw[AT,ch]at*;omega
 rwa[a0r]at this
def Lj:∀ {l:List nI} {z:Int} {k:Nat} {x:nI},Um z l->l[k]? =some x->QB z (J k l)<=x.2.1
 |[],_,_,_,_,h=>by simp at h
 |y::l,z,0,x,h,hx=>by
  have e:y=x:=a2L
  subst e;exact h.1
 |y::l,z,k+1,x,h,hx=>Lj (l:=l) (z:=y.2.1) (k:=k) h.2 a2L
def xG{X:List ByteArray->List Nat}{T:List Nat->List Nat}{c:Co}{k:Nat}{x:ByteArray×Bool}(H:c.at_[k]? =some x):fV X T c.v.at_ c.v.tk (k+1)=fV X T c.v.at_ c.v.tk k++lJ X T x (ga c k):=by
 unfold fV;rw[yP,Dx,show c.v.at_.getD k (wt,false)=x by rw[KV,show c.v.at_=c.at_ from Y,H];rfl]
def pW(X:List ByteArray->List Nat)(T:List Nat->List Nat)(c:Co):ji X T c.v=[67,83,49]++(uv (I c.at_)++(fV X T c.v.at_ c.v.tk (I c.at_)++(uv (I c.tx)++(c.tx.flatMap (λ x=>jc x.v)++(uv (I c.rg)++(gV 0 (c.rg.map Iv.v)++HX c.nd c.hd c.rl)))))):=by
 have E:I c.v.tx=I c.tx:=Xu ..;have d:I c.v.rg=I c.rg:=Xu ..;have g:c.v.tx.flatMap jc=c.tx.flatMap λ x=>jc x.v:=a2w ..;unfold ji HX;rw[E,d,g];rfl
def yQ{bf:Int}{x:nI}(h:x.1.size<=32)(p:okPs x.2.2.2):I (QA bf x)<=2000:=by
 have H:=cg x.1;have d:=na p;have g:=aF (x.2.1-bf).toNat;have i:=aF (x.2.2.1-x.2.1).toNat;unfold QA;simp only[AT];omega
def yR{x:nI}(h:x.1.size<=32)(p:okPs x.2.2.2):I (jc x)<=2000:=by
 have H:=cg x.1;have d:=na p;have g:=aF (x.2.2.1-x.2.1).toNat;unfold jc;simp only[AT];omega
def F8{n:Nat}{c:Co}(h:OkC n c)(o:n<=4):I (HX c.nd c.hd c.rl)<=100000:=by
 have r:=uJ (f:=vj) (B:=80) c.nd λ x d=>by
  have g:=bD (h.nd.el x d).1;have j:=cg x.nm;have k:=aF (x.p+1).toNat;have l:=aF x.b.toNat;have q:=aF (x.e-x.b).toNat;unfold vj;simp only[AT];omega
 have g:=uJ (f:=vM) (B:=80) (c.hd.zip c.rl) λ x d=>by
  obtain⟨i,H⟩:=Y9 d;rw[a03]at H;have j:=(h.Wg o H.1 H.2).2.2;have k:=cg x.2;have l:=aF (x.1+1).toNat;unfold vM;simp only[AT];omega
 have j:=h.nnd;have k:=h.Mz o;have l:=aF (I c.nd);have q:=aF (I c.hd);rw[length_zip]at g;unfold HX;simp only[AT];omega
