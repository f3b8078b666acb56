/-
 M41t:what the decoder reads at the bytes of a good corpus,part by part. No program in sight.
-/
import Derived.Test.YthffkcnbdehceaaGreatM02v
open List
set_option linter.unusedVariables false
set_option linter.unusedSimpArgs false
set_option linter.unusedSectionVars false
namespace Go.Kw
def O8 (x:kU):Prop:=x.1.size<=1073741824/\x.2.2.2.length<=1073741824/\(∀ p∈x.2.2.2,Pq p)/\0<=x.2.1/\x.2.1<=x.2.2.1/\x.2.2.1<=1073741824
theorem MJ {X:Bool} {s:RS} {r:List Nat} {l:List kU} (h:At X s (uv l.length++(l.flatMap ic++r))) (hl:l.length<=1073741824) (hx:∀ x∈l,O8 x) (hc:MC 0 l):At X (dI s 0).2.1 r/\((dI s 0).2.1.1=true->s.1=true/\(dI s 0).1=l):=by
 obtain ⟨h1,h2⟩:=gU h hl
 let G:List kU->RS×Nat->Prop:=λ l p=>At X p.1 (l.flatMap ic++r)/\(p.1.1=true->MC (p.2:Int) l)
 have h0:∀ (s:RS×Nat) (l:List kU),xZ s=false->G l s->G [] s:=λ s l q g=>⟨g.1.off q,λ q2=>(by rw [show s.1.1=false from q] at q2;cases q2)⟩
 have key:=tH (ok:=xZ) (f:=Bm) (val:=id) (G:=G) h0 (m:=(aT s).1) (s:=((aT s).2,0)) (λ q=>(h2 q).2) ⟨h1,λ _=>hc⟩ (pn (ok:=xZ) (f:=Bm) (val:=id) (okb:=O8) h0 (λ p x l hx g=>by
  obtain ⟨a1,a2,a3,a4,a5,a6⟩:=hx
  have g':At X p.1 (dq x.1++(uv (x.2.2.1-x.2.1).toNat++(rU x.2.2.2++(l.flatMap ic++r)))):=by
   have e:(x::l).flatMap ic++r=dq x.1++(uv (x.2.2.1-x.2.1).toNat++(rU x.2.2.2++(l.flatMap ic++r))):=by rw [flatMap_cons,show ic x=dq x.1++(uv (x.2.2.1-x.2.1).toNat++rU x.2.2.2) from rfl];simp only [append_assoc]
   rw [<-e];exact g.1
  obtain ⟨b1,b2⟩:=tG g' a1
  obtain ⟨c1,c2⟩:=gU b1 (by omega)
  obtain ⟨d1,d2⟩:=L9 c1 a2 a3
  have key:(Bm p).2.1.1=true->p.1.1=true/\(aS p.1).1=x.1/\(aT (aS p.1).2).1=(x.2.2.1-x.2.1).toNat/\(qk (aT (aS p.1).2).2).1=x.2.2.2:=λ q=>by
   obtain ⟨q1,q2⟩:=d2 q;obtain ⟨q3,q4⟩:=c2 q1;obtain ⟨q5,q6⟩:=b2 q3
   exact ⟨q5,q6,q4,q2⟩
  refine ⟨⟨d1,λ q=> ?_⟩,λ q=> ?_⟩
  ·obtain ⟨q1,q2,q3,q4⟩:=key q
   have h9:=g.2 q1
   have e:((Bm p).2.2:Int)=x.2.2.1:=by
    show ((p.2+(aT (aS p.1).2).1:Nat):Int)=_
    have:=h9.1;rw [q3];omega
   rw [e];exact h9.2
  ·obtain ⟨q1,q2,q3,q4⟩:=key q
   have h9:=(g.2 q1).1
   refine ⟨q1,?_⟩
   show ((aS p.1).1,((p.2:Nat):Int),((p.2+(aT (aS p.1).2).1:Nat):Int),(qk (aT (aS p.1).2).2).1)=x
   rw [q2,q3,q4]
   exact Prod.ext rfl (Prod.ext h9.symm (Prod.ext (by simp only;omega) rfl))) l ((aT s).2,0) hx ⟨h1,λ _=>hc⟩)
 refine ⟨key.1.1,λ q=> ?_⟩
 obtain ⟨k1,k2⟩:=key.2 q
 rw [map_id] at k2
 exact ⟨(h2 k1).1,k2⟩
theorem MK {X:Bool} {s:RS} {r:List Nat} {l:List kU} (h:At X s (uv l.length++(fD 0 l++r))) (hl:l.length<=1073741824) (hx:∀ x∈l,O8 x) (hc:Lm 0 l):At X (dV s 0).2.1 r/\((dV s 0).2.1.1=true->s.1=true/\(dV s 0).1=l):=by
 obtain ⟨h1,h2⟩:=gU h hl
 let G:List kU->RS×Nat->Prop:=λ l p=>At X p.1 (fD (p.2:Int) l++r)/\(p.1.1=true->Lm (p.2:Int) l)
 have h0:∀ (s:RS×Nat) (l:List kU),xZ s=false->G l s->G [] s:=λ s l q g=>⟨g.1.off q,λ q2=>(by rw [show s.1.1=false from q] at q2;cases q2)⟩
 have key:=tH (ok:=xZ) (f:=yZ) (val:=id) (G:=G) h0 (m:=(aT s).1) (s:=((aT s).2,0)) (λ q=>(h2 q).2) ⟨h1,λ _=>hc⟩ (pn (ok:=xZ) (f:=yZ) (val:=id) (okb:=O8) h0 (λ p x l hx g=>by
  obtain ⟨a1,a2,a3,a4,a5,a6⟩:=hx
  have g':At X p.1 (dq x.1++(uv (x.2.1-(p.2:Int)).toNat++(uv (x.2.2.1-x.2.1).toNat++(rU x.2.2.2++(fD x.2.1 l++r))))):=by
   have e:fD (p.2:Int) (x::l)++r=dq x.1++(uv (x.2.1-(p.2:Int)).toNat++(uv (x.2.2.1-x.2.1).toNat++(rU x.2.2.2++(fD x.2.1 l++r)))):=by rw [fD];unfold Ll;simp only [append_assoc]
   rw [<-e];exact g.1
  obtain ⟨b1,b2⟩:=tG g' a1
  obtain ⟨c1,c2⟩:=gU b1 (by omega)
  obtain ⟨e1,e2⟩:=gU c1 (by omega)
  obtain ⟨d1,d2⟩:=L9 e1 a2 a3
  have key:(yZ p).2.1.1=true->p.1.1=true/\(aS p.1).1=x.1/\(aT (aS p.1).2).1=(x.2.1-(p.2:Int)).toNat/\(aT (aT (aS p.1).2).2).1=(x.2.2.1-x.2.1).toNat/\(qk (aT (aT (aS p.1).2).2).2).1=x.2.2.2:=λ q=>by
   obtain ⟨q1,q2⟩:=d2 q;obtain ⟨q7,q8⟩:=e2 q1;obtain ⟨q3,q4⟩:=c2 q7;obtain ⟨q5,q6⟩:=b2 q3
   exact ⟨q5,q6,q4,q8,q2⟩
  have hat:(yZ p).2.1.1=true->((yZ p).2.2:Int)=x.2.1:=λ q=>by
   obtain ⟨q1,q2,q3,q4,q5⟩:=key q
   have h9:=(g.2 q1).1
   show ((p.2+(aT (aS p.1).2).1:Nat):Int)=_
   rw [q3];omega
  refine ⟨⟨?_,λ q=> ?_⟩,λ q=> ?_⟩
  ·rcases Bool.eq_false_or_eq_true (yZ p).2.1.1 with q|q
   ·rw [hat q];exact d1
   ·exact At.off d1 q
  ·obtain ⟨q1,_⟩:=key q
   rw [hat q];exact (g.2 q1).2
  ·obtain ⟨q1,q2,q3,q4,q5⟩:=key q
   have h9:=(g.2 q1).1
   refine ⟨q1,?_⟩
   show ((aS p.1).1,((p.2+(aT (aS p.1).2).1:Nat):Int),((p.2+(aT (aS p.1).2).1+(aT (aT (aS p.1).2).2).1:Nat):Int),(qk (aT (aT (aS p.1).2).2).2).1)=x
   rw [q2,q3,q4,q5]
   exact Prod.ext rfl (Prod.ext (by simp only;omega) (Prod.ext (by simp only;omega) rfl))) l ((aT s).2,0) hx ⟨h1,λ _=>hc⟩)
 refine ⟨key.1.1,λ q=> ?_⟩
 obtain ⟨k1,k2⟩:=key.2 q
 rw [map_id] at k2
 exact ⟨(h2 k1).1,k2⟩
def O9 (x:Nd):Prop:=x.nm.size<=1073741824/\-1<=x.p/\x.p<1073741824/\0<=x.b/\x.b<=x.e/\x.e<=1073741824
theorem ML {X:Bool} {s:RS} {r:List Nat} {l:List Nd} (h:At X s (uv l.length++(l.flatMap uh++r))) (hl:l.length<=1073741824) (hx:∀ x∈l,O9 x):At X (eE s).2 r/\((eE s).2.1=true->s.1=true/\(eE s).1=l):=by
 obtain ⟨h1,h2⟩:=gU h hl
 let G:List Nd->RS->Prop:=λ l p=>At X p (l.flatMap uh++r)
 have h0:∀ (s:RS) (l:List Nd),s.1=false->G l s->G [] s:=λ s l q g=>At.off g q
 have key:=tH (ok:=Prod.fst) (f:=Gp) (val:=id) (G:=G) h0 (m:=(aT s).1) (λ q=>(h2 q).2) h1 (pn (ok:=Prod.fst) (f:=Gp) (val:=id) (okb:=O9) h0 (λ p x l hx g=>by
  obtain ⟨a1,a2,a3,a4,a5,a6⟩:=hx
  have g':At X p (dq x.nm++(uv (x.p+1).toNat++(uv x.b.toNat++(uv (x.e-x.b).toNat++(l.flatMap uh++r))))):=by
   have e:(x::l).flatMap uh++r=dq x.nm++(uv (x.p+1).toNat++(uv x.b.toNat++(uv (x.e-x.b).toNat++(l.flatMap uh++r)))):=by rw [flatMap_cons];unfold uh;simp only [append_assoc]
   rw [<-e];exact g
  obtain ⟨b1,b2⟩:=tG g' a1
  obtain ⟨c1,c2⟩:=gU b1 (by omega)
  obtain ⟨d1,d2⟩:=gU c1 (by omega)
  obtain ⟨e1,e2⟩:=gU d1 (by omega)
  refine ⟨e1,λ q=> ?_⟩
  obtain ⟨q1,q2⟩:=e2 q;obtain ⟨q3,q4⟩:=d2 q1;obtain ⟨q5,q6⟩:=c2 q3;obtain ⟨q7,q8⟩:=b2 q5
  refine ⟨q7,?_⟩
  show (⟨(aS p).1,((aT (aT (aS p).2).2).1:Int),(((aT (aT (aS p).2).2).1+(aT (aT (aT (aS p).2).2).2).1:Nat):Int),((aT (aS p).2).1:Int)-1⟩:Nd)=x
  rw [q2,q4,q6,q8]
  obtain ⟨x1,x2,x3,x4⟩:=x
  simp only at a2 a3 a4 a5 a6⊢
  rw [Nd.mk.injEq]
  exact ⟨rfl,by omega,by omega,by omega⟩) l (aT s).2 hx h1)
 refine ⟨key.1,λ q=> ?_⟩
 obtain ⟨k1,k2⟩:=key.2 q
 rw [map_id] at k2
 exact ⟨(h2 k1).1,k2⟩
def Oa (x:Int×ByteArray):Prop:= -1<=x.1/\x.1<1073741824/\x.2.size<=1073741824
theorem MM {X:Bool} {s:RS} {r:List Nat} {l:List (Int×ByteArray)} (h:At X s (uv l.length++(l.flatMap pO++r))) (hl:l.length<=1073741824) (hx:∀ x∈l,Oa x):At X (fH s).2 r/\((fH s).2.1=true->s.1=true/\(fH s).1=l):=by
 obtain ⟨h1,h2⟩:=gU h hl
 let G:List (Int×ByteArray)->RS->Prop:=λ l p=>At X p (l.flatMap pO++r)
 have h0:∀ (s:RS) (l:List (Int×ByteArray)),s.1=false->G l s->G [] s:=λ s l q g=>At.off g q
 have key:=tH (ok:=Prod.fst) (f:=Cv) (val:=id) (G:=G) h0 (m:=(aT s).1) (λ q=>(h2 q).2) h1 (pn (ok:=Prod.fst) (f:=Cv) (val:=id) (okb:=Oa) h0 (λ p x l hx g=>by
  obtain ⟨a1,a2,a3⟩:=hx
  have g':At X p (uv (x.1+1).toNat++(dq x.2++(l.flatMap pO++r))):=by
   have e:(x::l).flatMap pO++r=uv (x.1+1).toNat++(dq x.2++(l.flatMap pO++r)):=by rw [flatMap_cons];unfold pO;simp only [append_assoc]
   rw [<-e];exact g
  obtain ⟨b1,b2⟩:=gU g' (by omega)
  obtain ⟨c1,c2⟩:=tG b1 a3
  refine ⟨c1,λ q=> ?_⟩
  obtain ⟨q1,q2⟩:=c2 q;obtain ⟨q3,q4⟩:=b2 q1
  refine ⟨q3,?_⟩
  show (((aT p).1:Int)-1,(aS (aT p).2).1)=x
  rw [q2,q4]
  exact Prod.ext (by simp only;omega) rfl) l (aT s).2 hx h1)
 refine ⟨key.1,λ q=> ?_⟩
 obtain ⟨k1,k2⟩:=key.2 q
 rw [map_id] at k2
 exact ⟨(h2 k1).1,k2⟩
def HD (c:Co):List Nat:=uv c.tx.length++(c.tx.flatMap (λ x=>ic x.v)++(uv c.rg.length++(fD 0 (c.rg.map Iv.v)++Gq c.nd c.hd c.rl)))
theorem MN (X:List ByteArray->List Nat) (T:List Nat->List Nat) (c:Co):di X T c.v=[67,83,49]++(uv c.at_.length++(ib X T c.v.at_ c.v.tk c.at_.length++HD c)):=rI X T c
theorem Ls {x:Iv} (h1:bA x.nm=true) (h2:okPs x.ps) (h3:0<=x.b/\x.b<=x.e/\x.e<=1073741824):O8 x.v:=by
 have a1:=bJ h1
 refine ⟨by show x.nm.size<=_;omega,by show x.ps.length<=_;have:=h2.1;omega,λ p hp=> ?_,h3⟩
 have h4:=h2.2.1 p hp
 have:=bJ h4.1;have:=ie h4.2
 exact ⟨by omega,by omega⟩
theorem tail_at {X:Bool} {s:RS} {n:Nat} {c:Co} (ho:OkC n c) (hn:n<=3) (h:At X s (HD c)):At X (fH (eE (dV (dI s 0).2.1 0).2.1).2).2 []/\((fH (eE (dV (dI s 0).2.1 0).2.1).2).2.1=true->s.1=true/\(dI s 0).1=c.tx.map Iv.v/\(dV (dI s 0).2.1 0).1=c.rg.map Iv.v/\(eE (dV (dI s 0).2.1 0).2.1).1=c.nd/\(fH (eE (dV (dI s 0).2.1 0).2.1).2).1=c.hd.zip c.rl):=by
 have h1:=ho.ntk;have h2:=ho.ntx;have h3:=ho.nrg;have h4:=ho.nnd;have h5:=ho.I5 hn
 have hv:=ho.Pb (Nat.le_trans hn (by decide))
 have e1:(c.tx.map Iv.v).length=c.tx.length:=length_map ..
 have e2:(c.rg.map Iv.v).length=c.rg.length:=length_map ..
 have e3:(c.tx.map Iv.v).flatMap ic=c.tx.flatMap λ x=>ic x.v:=flatMap_map ..
 have e4:(c.hd.zip c.rl).length=c.hd.length:=by rw [length_zip];omega
 unfold HD at h
 rw [<-e1,<-e3,<-e2] at h
 obtain ⟨A1,B1⟩:=MJ h (by omega) (λ x hx=>by
  obtain ⟨y,hy,rfl⟩:=mem_map.1 hx
  obtain ⟨q1,q2,q3,q4,q5⟩:=ho.tx.nm y hy
  exact Ls q1 q2 ⟨q3,by omega,by omega⟩) hv.xc
 obtain ⟨A2,B2⟩:=MK A1 (by omega) (λ x hx=>by
  obtain ⟨y,hy,rfl⟩:=mem_map.1 hx
  obtain ⟨q1,q2,q3⟩:=ho.rg.el y hy
  have:=q2.bd ho.tx
  exact Ls q1 q3 ⟨by omega,by omega,by omega⟩) hv.rc
 unfold Gq at A2
 obtain ⟨A3,B3⟩:=ML A2 (by omega) (λ x hx=>by
  obtain ⟨q1,q2⟩:=ho.nd.el x hx
  have q3:=q2.bd ho.tx
  obtain ⟨i,hi⟩:=getElem?_of_mem hx
  have q4:=ho.nd.par i x hi
  have q5:=(List.getElem?_eq_some_iff.1 hi).1
  have q6:=bJ q1
  exact ⟨by omega,by omega,by omega,by omega,by omega,by omega⟩)
 rw [<-e4,<-append_nil ((c.hd.zip c.rl).flatMap pO)] at A3
 obtain ⟨A4,B4⟩:=MM A3 (by omega) (λ x hx=>by
  obtain ⟨i,hi⟩:=getElem?_of_mem hx
  rw [getElem?_zip_eq_some] at hi
  have:=ho.PC hn hi.1 hi.2
  exact ⟨by omega,by omega,by omega⟩)
 refine ⟨A4,λ q=> ?_⟩
 obtain ⟨q1,q2⟩:=B4 q;obtain ⟨q3,q4⟩:=B3 q1;obtain ⟨q5,q6⟩:=B2 q3;obtain ⟨q7,q8⟩:=B1 q5
 exact ⟨q7,q8,q6,q4,q2⟩
theorem Pv {c:Co} {as_:List (ByteArray×Bool)} {S:List (SV×List ByteArray)} {tx rg:List Iv} {nd:List Nd} {hz:List (Int×ByteArray)} {va vt vx vr vn vh vl:Value} (h1:as_=c.at_) (h2:S.map Prod.snd=c.tk.map (·.ns)) (h3:tx.map Iv.v=c.tx.map Iv.v) (h4:rg.map Iv.v=c.rg.map Iv.v) (h5:nd=c.nd) (h6:hz=c.hd.zip c.rl) (h7:c.hd.length=c.rl.length):
  c.v=(Co.mk va vt vx vr vn vh vl as_ (S.map λ p=>(⟨p.1,p.2⟩:Tk)) tx rg nd (hz.map Prod.fst) (hz.map Prod.snd)).v:=by
 have e1:(S.map λ p=>(⟨p.1,p.2⟩:Tk)).map (·.ns)=c.tk.map (·.ns):=by rw [map_map,<-h2];rfl
 have e2:hz.map Prod.fst=c.hd:=by rw [h6,map_fst_zip (by omega)]
 have e3:hz.map Prod.snd=c.rl:=by rw [h6,map_snd_zip (by omega)]
 unfold Co.v
 simp only
 rw [h1,e1,h3,h4,h5,e2,e3]
def oB:Co:=⟨.slice none 0 0,.slice none 0 0,.slice none 0 0,.slice none 0 0,.slice none 0 0,.slice none 0 0,.slice none 0 0,[],[],[],[],[],[],[]⟩
theorem rW (w:World):RdC w oB:=⟨RdL.nil _ _,RdL.nil _ _,RdL.nil _ _,RdL.nil _ _,RdL.nil _ _,RdL.nil _ _,RdL.nil _ _,λ t h=>(by cases h),λ t h=>(by cases h),λ t h=>(by cases h)⟩
theorem Ob {w:World} {v:Value} {S:List (SV×List ByteArray)} (h:RdL w v (bK ByteArray) S):RdL w v fz (S.map λ p=>(⟨p.1,p.2⟩:Tk)):=by
 have e:fz.all (S.map λ p=>(⟨p.1,p.2⟩:Tk))=(bK ByteArray).all S:=by
  unfold Enc.all
  rw [flatMap_map];rfl
 unfold RdL at h⊢
 rw [e,length_map];exact h
end Go.Kw
