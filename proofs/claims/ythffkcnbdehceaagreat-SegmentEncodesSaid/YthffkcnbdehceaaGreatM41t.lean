/-
 M41t:what the decoder reads at the bytes of a good corpus,part by part. No program in sight.
-/
import Derived.Test.YthffkcnbdehceaaGreatM02v
open Go.Proofs.YthffkcnbdehceaaGreat
open List
set_option linter.unusedVariables false
set_option linter.unusedSimpArgs false
set_option linter.unusedSectionVars false
namespace Go.Kw
def NH (x:lC):Prop:=x.1.size<=1073741824/\x.2.2.2.length<=1073741824/\(∀ p∈x.2.2.2,OT p)/\0<=x.2.1/\x.2.1<=x.2.2.1/\x.2.2.1<=1073741824
theorem M7 {X:Bool} {s:RS} {r:List Nat} {l:List lC} (h:At X s (uv l.length++(l.flatMap gS++r))) (hl:l.length<=1073741824) (hx:∀ x∈l,NH x) (hc:Nt 0 l):At X (dJ s 0).2.1 r/\((dJ s 0).2.1.1=true->s.1=true/\(dJ s 0).1=l):=by
 obtain ⟨h1,h2⟩:=ig h hl
 let G:List lC->RS×Nat->Prop:=λ l p=>At X p.1 (l.flatMap gS++r)/\(p.1.1=true->Nt (p.2:Int) l)
 have h0:∀ (s:RS×Nat) (l:List lC),wQ s=false->G l s->G [] s:=λ s l q g=>⟨g.1.off q,λ q2=>(by rw [show s.1.1=false from q] at q2;cases q2)⟩
 have key:=ry (ok:=wQ) (f:=Ak) (val:=id) (G:=G) h0 (m:=(aS s).1) (s:=((aS s).2,0)) (λ q=>(h2 q).2) ⟨h1,λ _=>hc⟩ (oB (ok:=wQ) (f:=Ak) (val:=id) (okb:=NH) h0 (λ p x l hx g=>by
  obtain ⟨a1,a2,a3,a4,a5,a6⟩:=hx
  have g':At X p.1 (cr x.1++(uv (x.2.2.1-x.2.1).toNat++(pw x.2.2.2++(l.flatMap gS++r)))):=by
   have e:(x::l).flatMap gS++r=cr x.1++(uv (x.2.2.1-x.2.1).toNat++(pw x.2.2.2++(l.flatMap gS++r))):=by rw [Rz,show gS x=cr x.1++(uv (x.2.2.1-x.2.1).toNat++pw x.2.2.2) from rfl];simp only [LW]
   rw [<-e];exact g.1
  obtain ⟨b1,b2⟩:=ru g' a1
  obtain ⟨c1,c2⟩:=ig b1 (by omega)
  obtain ⟨d1,d2⟩:=Kp c1 a2 a3
  have key:(Ak p).2.1.1=true->p.1.1=true/\(aP p.1).1=x.1/\(aS (aP p.1).2).1=(x.2.2.1-x.2.1).toNat/\(pq (aS (aP p.1).2).2).1=x.2.2.2:=λ q=>by
   obtain ⟨q1,q2⟩:=d2 q;obtain ⟨q3,q4⟩:=c2 q1;obtain ⟨q5,q6⟩:=b2 q3
   exact ⟨q5,q6,q4,q2⟩
  refine ⟨⟨d1,λ q=> ?_⟩,λ q=> ?_⟩
  ·obtain ⟨q1,q2,q3,q4⟩:=key q
   have h9:=g.2 q1
   have e:((Ak p).2.2:Int)=x.2.2.1:=by
    show ((p.2+(aS (aP p.1).2).1:Nat):Int)=_
    have:=h9.1;rw [q3];omega
   rw [e];exact h9.2
  ·obtain ⟨q1,q2,q3,q4⟩:=key q
   have h9:=(g.2 q1).1
   refine ⟨q1,?_⟩
   show ((aP p.1).1,((p.2:Nat):Int),((p.2+(aS (aP p.1).2).1:Nat):Int),(pq (aS (aP p.1).2).2).1)=x
   rw [q2,q3,q4]
   exact Sd rfl (Sd h9.symm (Sd (by simp only;omega) rfl))) l ((aS s).2,0) hx ⟨h1,λ _=>hc⟩)
 refine ⟨key.1.1,λ q=> ?_⟩
 obtain ⟨k1,k2⟩:=key.2 q
 rw [map_id] at k2
 exact ⟨(h2 k1).1,k2⟩
theorem M8 {X:Bool} {s:RS} {r:List Nat} {l:List lC} (h:At X s (uv l.length++(fw 0 l++r))) (hl:l.length<=1073741824) (hx:∀ x∈l,NH x) (hc:N4 0 l):At X (ec s 0).2.1 r/\((ec s 0).2.1.1=true->s.1=true/\(ec s 0).1=l):=by
 obtain ⟨h1,h2⟩:=ig h hl
 let G:List lC->RS×Nat->Prop:=λ l p=>At X p.1 (fw (p.2:Int) l++r)/\(p.1.1=true->N4 (p.2:Int) l)
 have h0:∀ (s:RS×Nat) (l:List lC),wQ s=false->G l s->G [] s:=λ s l q g=>⟨g.1.off q,λ q2=>(by rw [show s.1.1=false from q] at q2;cases q2)⟩
 have key:=ry (ok:=wQ) (f:=y4) (val:=id) (G:=G) h0 (m:=(aS s).1) (s:=((aS s).2,0)) (λ q=>(h2 q).2) ⟨h1,λ _=>hc⟩ (oB (ok:=wQ) (f:=y4) (val:=id) (okb:=NH) h0 (λ p x l hx g=>by
  obtain ⟨a1,a2,a3,a4,a5,a6⟩:=hx
  have g':At X p.1 (cr x.1++(uv (x.2.1-(p.2:Int)).toNat++(uv (x.2.2.1-x.2.1).toNat++(pw x.2.2.2++(fw x.2.1 l++r))))):=by
   have e:fw (p.2:Int) (x::l)++r=cr x.1++(uv (x.2.1-(p.2:Int)).toNat++(uv (x.2.2.1-x.2.1).toNat++(pw x.2.2.2++(fw x.2.1 l++r)))):=by rw [fw];unfold Kv;simp only [LW]
   rw [<-e];exact g.1
  obtain ⟨b1,b2⟩:=ru g' a1
  obtain ⟨c1,c2⟩:=ig b1 (by omega)
  obtain ⟨e1,e2⟩:=ig c1 (by omega)
  obtain ⟨d1,d2⟩:=Kp e1 a2 a3
  have key:(y4 p).2.1.1=true->p.1.1=true/\(aP p.1).1=x.1/\(aS (aP p.1).2).1=(x.2.1-(p.2:Int)).toNat/\(aS (aS (aP p.1).2).2).1=(x.2.2.1-x.2.1).toNat/\(pq (aS (aS (aP p.1).2).2).2).1=x.2.2.2:=λ q=>by
   obtain ⟨q1,q2⟩:=d2 q;obtain ⟨q7,q8⟩:=e2 q1;obtain ⟨q3,q4⟩:=c2 q7;obtain ⟨q5,q6⟩:=b2 q3
   exact ⟨q5,q6,q4,q8,q2⟩
  have hat:(y4 p).2.1.1=true->((y4 p).2.2:Int)=x.2.1:=λ q=>by
   obtain ⟨q1,q2,q3,q4,q5⟩:=key q
   have h9:=(g.2 q1).1
   show ((p.2+(aS (aP p.1).2).1:Nat):Int)=_
   rw [q3];omega
  refine ⟨⟨?_,λ q=> ?_⟩,λ q=> ?_⟩
  ·rcases QK (y4 p).2.1.1 with q|q
   ·rw [hat q];exact d1
   ·exact At.off d1 q
  ·obtain ⟨q1,_⟩:=key q
   rw [hat q];exact (g.2 q1).2
  ·obtain ⟨q1,q2,q3,q4,q5⟩:=key q
   have h9:=(g.2 q1).1
   refine ⟨q1,?_⟩
   show ((aP p.1).1,((p.2+(aS (aP p.1).2).1:Nat):Int),((p.2+(aS (aP p.1).2).1+(aS (aS (aP p.1).2).2).1:Nat):Int),(pq (aS (aS (aP p.1).2).2).2).1)=x
   rw [q2,q3,q4,q5]
   exact Sd rfl (Sd (by simp only;omega) (Sd (by simp only;omega) rfl))) l ((aS s).2,0) hx ⟨h1,λ _=>hc⟩)
 refine ⟨key.1.1,λ q=> ?_⟩
 obtain ⟨k1,k2⟩:=key.2 q
 rw [map_id] at k2
 exact ⟨(h2 k1).1,k2⟩
def NI (x:Nd):Prop:=x.nm.size<=1073741824/\-1<=x.p/\x.p<1073741824/\0<=x.b/\x.b<=x.e/\x.e<=1073741824
theorem M9 {X:Bool} {s:RS} {r:List Nat} {l:List Nd} (h:At X s (uv l.length++(l.flatMap rH++r))) (hl:l.length<=1073741824) (hx:∀ x∈l,NI x):At X (eI s).2 r/\((eI s).2.1=true->s.1=true/\(eI s).1=l):=by
 obtain ⟨h1,h2⟩:=ig h hl
 let G:List Nd->RS->Prop:=λ l p=>At X p (l.flatMap rH++r)
 have h0:∀ (s:RS) (l:List Nd),s.1=false->G l s->G [] s:=λ s l q g=>At.off g q
 have key:=ry (ok:=Prod.fst) (f:=FJ) (val:=id) (G:=G) h0 (m:=(aS s).1) (λ q=>(h2 q).2) h1 (oB (ok:=Prod.fst) (f:=FJ) (val:=id) (okb:=NI) h0 (λ p x l hx g=>by
  obtain ⟨a1,a2,a3,a4,a5,a6⟩:=hx
  have g':At X p (cr x.nm++(uv (x.p+1).toNat++(uv x.b.toNat++(uv (x.e-x.b).toNat++(l.flatMap rH++r))))):=by
   have e:(x::l).flatMap rH++r=cr x.nm++(uv (x.p+1).toNat++(uv x.b.toNat++(uv (x.e-x.b).toNat++(l.flatMap rH++r)))):=by rw [Rz];unfold rH;simp only [LW]
   rw [<-e];exact g
  obtain ⟨b1,b2⟩:=ru g' a1
  obtain ⟨c1,c2⟩:=ig b1 (by omega)
  obtain ⟨d1,d2⟩:=ig c1 (by omega)
  obtain ⟨e1,e2⟩:=ig d1 (by omega)
  refine ⟨e1,λ q=> ?_⟩
  obtain ⟨q1,q2⟩:=e2 q;obtain ⟨q3,q4⟩:=d2 q1;obtain ⟨q5,q6⟩:=c2 q3;obtain ⟨q7,q8⟩:=b2 q5
  refine ⟨q7,?_⟩
  show (⟨(aP p).1,((aS (aS (aP p).2).2).1:Int),(((aS (aS (aP p).2).2).1+(aS (aS (aS (aP p).2).2).2).1:Nat):Int),((aS (aP p).2).1:Int)-1⟩:Nd)=x
  rw [q2,q4,q6,q8]
  obtain ⟨x1,x2,x3,x4⟩:=x
  simp only at a2 a3 a4 a5 a6⊢
  rw [Nd.mk.injEq]
  exact ⟨rfl,by omega,by omega,by omega⟩) l (aS s).2 hx h1)
 refine ⟨key.1,λ q=> ?_⟩
 obtain ⟨k1,k2⟩:=key.2 q
 rw [map_id] at k2
 exact ⟨(h2 k1).1,k2⟩
def NJ (x:Int×ByteArray):Prop:= -1<=x.1/\x.1<1073741824/\x.2.size<=1073741824
theorem Ma {X:Bool} {s:RS} {r:List Nat} {l:List (Int×ByteArray)} (h:At X s (uv l.length++(l.flatMap sM++r))) (hl:l.length<=1073741824) (hx:∀ x∈l,NJ x):At X (fK s).2 r/\((fK s).2.1=true->s.1=true/\(fK s).1=l):=by
 obtain ⟨h1,h2⟩:=ig h hl
 let G:List (Int×ByteArray)->RS->Prop:=λ l p=>At X p (l.flatMap sM++r)
 have h0:∀ (s:RS) (l:List (Int×ByteArray)),s.1=false->G l s->G [] s:=λ s l q g=>At.off g q
 have key:=ry (ok:=Prod.fst) (f:=BA) (val:=id) (G:=G) h0 (m:=(aS s).1) (λ q=>(h2 q).2) h1 (oB (ok:=Prod.fst) (f:=BA) (val:=id) (okb:=NJ) h0 (λ p x l hx g=>by
  obtain ⟨a1,a2,a3⟩:=hx
  have g':At X p (uv (x.1+1).toNat++(cr x.2++(l.flatMap sM++r))):=by
   have e:(x::l).flatMap sM++r=uv (x.1+1).toNat++(cr x.2++(l.flatMap sM++r)):=by rw [Rz];unfold sM;simp only [LW]
   rw [<-e];exact g
  obtain ⟨b1,b2⟩:=ig g' (by omega)
  obtain ⟨c1,c2⟩:=ru b1 a3
  refine ⟨c1,λ q=> ?_⟩
  obtain ⟨q1,q2⟩:=c2 q;obtain ⟨q3,q4⟩:=b2 q1
  refine ⟨q3,?_⟩
  show (((aS p).1:Int)-1,(aP (aS p).2).1)=x
  rw [q2,q4]
  exact Sd (by simp only;omega) rfl) l (aS s).2 hx h1)
 refine ⟨key.1,λ q=> ?_⟩
 obtain ⟨k1,k2⟩:=key.2 q
 rw [map_id] at k2
 exact ⟨(h2 k1).1,k2⟩
def H9 (c:Co):List Nat:=uv c.tx.length++(c.tx.flatMap (λ x=>gS x.v)++(uv c.rg.length++(fw 0 (c.rg.map Iv.v)++E1 c.nd c.hd c.rl)))
theorem Mb (X:List ByteArray->List Nat) (T:List Nat->List Nat) (c:Co):iR X T c.v=[67,83,49]++(uv c.at_.length++(eM X T c.v.at_ c.v.tk c.at_.length++H9 c)):=ny X T c
theorem KN {x:Iv} (h1:bC x.nm=true) (h2:okPs x.ps) (h3:0<=x.b/\x.b<=x.e/\x.e<=1073741824):NH x.v:=by
 have a1:=bk h1
 refine ⟨by show x.nm.size<=_;omega,by show x.ps.length<=_;have:=h2.1;omega,λ p hp=> ?_,h3⟩
 have h4:=h2.2.1 p hp
 have:=bk h4.1;have:=ik h4.2
 exact ⟨by omega,by omega⟩
theorem tail_at {X:Bool} {s:RS} {n:Nat} {c:Co} (ho:OkC n c) (hn:n<=3) (h:At X s (H9 c)):At X (fK (eI (ec (dJ s 0).2.1 0).2.1).2).2 []/\((fK (eI (ec (dJ s 0).2.1 0).2.1).2).2.1=true->s.1=true/\(dJ s 0).1=c.tx.map Iv.v/\(ec (dJ s 0).2.1 0).1=c.rg.map Iv.v/\(eI (ec (dJ s 0).2.1 0).2.1).1=c.nd/\(fK (eI (ec (dJ s 0).2.1 0).2.1).2).1=c.hd.zip c.rl):=by
 have h1:=ho.ntk;have h2:=ho.ntx;have h3:=ho.nrg;have h4:=ho.nnd;have h5:=ho.HE hn
 have hv:=ho.P8 (Q7 hn (by decide))
 have e1:(c.tx.map Iv.v).length=c.tx.length:=No ..
 have e2:(c.rg.map Iv.v).length=c.rg.length:=No ..
 have e3:(c.tx.map Iv.v).flatMap gS=c.tx.flatMap λ x=>gS x.v:=TX ..
 have e4:(c.hd.zip c.rl).length=c.hd.length:=by rw [length_zip];omega
 unfold H9 at h
 rw [<-e1,<-e3,<-e2] at h
 obtain ⟨A1,B1⟩:=M7 h (by omega) (λ x hx=>by
  obtain ⟨y,hy,rfl⟩:=Qn.1 hx
  obtain ⟨q1,q2,q3,q4,q5⟩:=ho.tx.nm y hy
  exact KN q1 q2 ⟨q3,by omega,by omega⟩) hv.xc
 obtain ⟨A2,B2⟩:=M8 A1 (by omega) (λ x hx=>by
  obtain ⟨y,hy,rfl⟩:=Qn.1 hx
  obtain ⟨q1,q2,q3⟩:=ho.rg.el y hy
  have:=q2.bd ho.tx
  exact KN q1 q3 ⟨by omega,by omega,by omega⟩) hv.rc
 unfold E1 at A2
 obtain ⟨A3,B3⟩:=M9 A2 (by omega) (λ x hx=>by
  obtain ⟨q1,q2⟩:=ho.nd.el x hx
  have q3:=q2.bd ho.tx
  obtain ⟨i,hi⟩:=Qh hx
  have q4:=ho.nd.par i x hi
  have q5:=(AT.1 hi).1
  have q6:=bk q1
  exact ⟨by omega,by omega,by omega,by omega,by omega,by omega⟩)
 rw [<-e4,<-QO ((c.hd.zip c.rl).flatMap sM)] at A3
 obtain ⟨A4,B4⟩:=Ma A3 (by omega) (λ x hx=>by
  obtain ⟨i,hi⟩:=Qh hx
  rw [SQ] at hi
  have:=ho.OI hn hi.1 hi.2
  exact ⟨by omega,by omega,by omega⟩)
 refine ⟨A4,λ q=> ?_⟩
 obtain ⟨q1,q2⟩:=B4 q;obtain ⟨q3,q4⟩:=B3 q1;obtain ⟨q5,q6⟩:=B2 q3;obtain ⟨q7,q8⟩:=B1 q5
 exact ⟨q7,q8,q6,q4,q2⟩
theorem P2 {c:Co} {as_:List (ByteArray×Bool)} {S:List (SV×List ByteArray)} {tx rg:List Iv} {nd:List Nd} {hz:List (Int×ByteArray)} {va vt vx vr vn vh vl:Value} (h1:as_=c.at_) (h2:S.map Prod.snd=c.tk.map (·.ns)) (h3:tx.map Iv.v=c.tx.map Iv.v) (h4:rg.map Iv.v=c.rg.map Iv.v) (h5:nd=c.nd) (h6:hz=c.hd.zip c.rl) (h7:c.hd.length=c.rl.length):
  c.v=(Co.mk va vt vx vr vn vh vl as_ (S.map λ p=>(⟨p.1,p.2⟩:Tk)) tx rg nd (hz.map Prod.fst) (hz.map Prod.snd)).v:=by
 have e1:(S.map λ p=>(⟨p.1,p.2⟩:Tk)).map (·.ns)=c.tk.map (·.ns):=by rw [Sf,<-h2];rfl
 have e2:hz.map Prod.fst=c.hd:=by rw [h6,map_fst_zip (by omega)]
 have e3:hz.map Prod.snd=c.rl:=by rw [h6,map_snd_zip (by omega)]
 unfold Co.v
 simp only
 rw [h1,e1,h3,h4,h5,e2,e3]
def sr:Co:=⟨.slice none 0 0,.slice none 0 0,.slice none 0 0,.slice none 0 0,.slice none 0 0,.slice none 0 0,.slice none 0 0,[],[],[],[],[],[],[]⟩
theorem wy (w:World):RdC w sr:=⟨RdL.nil _ _,RdL.nil _ _,RdL.nil _ _,RdL.nil _ _,RdL.nil _ _,RdL.nil _ _,RdL.nil _ _,λ t h=>(by cases h),λ t h=>(by cases h),λ t h=>(by cases h)⟩
theorem NK {w:World} {v:Value} {S:List (SV×List ByteArray)} (h:RdL w v (ck ByteArray) S):RdL w v iS (S.map λ p=>(⟨p.1,p.2⟩:Tk)):=by
 have e:iS.all (S.map λ p=>(⟨p.1,p.2⟩:Tk))=(ck ByteArray).all S:=by
  unfold Enc.all
  rw [TX];rfl
 unfold RdL at h⊢
 rw [e,No];exact h
end Go.Kw
