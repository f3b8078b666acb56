/-
 M41t:what the decoder reads at the bytes of a good corpus,part by part. No program in sight.
-/
import Derived.Test.YthffkcnbdehceaaGreatM02v
set_option linter.unusedVariables false
set_option linter.unusedSimpArgs false
set_option linter.unusedSectionVars false
namespace Go.Kw
def LO (x:ky):Prop:=x.1.size<=1073741824/\x.2.2.2.length<=1073741824/\(∀ p∈x.2.2.2,N5 p)/\0<=x.2.1/\x.2.1<=x.2.2.1/\x.2.2.1<=1073741824
theorem Kj {X:Bool} {s:RS} {r:List Nat} {l:List ky} (h:At X s (uv l.length++(l.flatMap gJ++r))) (hl:l.length<=1073741824) (hx:∀ x∈l,LO x) (hc:Kc 0 l):At X (dx s 0).2.1 r/\((dx s 0).2.1.1=true->s.1=true/\(dx s 0).1=l):=by
 obtain ⟨h1,h2⟩:=gA h hl
 let G:List ky->RS×Nat->Prop:=λ l p=>At X p.1 (l.flatMap gJ++r)/\(p.1.1=true->Kc (p.2:Int) l)
 have h0:∀ (s:RS×Nat) (l:List ky),vB s=false->G l s->G [] s:=λ s l q g=>⟨g.1.off q,λ q2=>(by rw [show s.1.1=false from q] at q2;cases q2)⟩
 have key:=qK (ok:=vB) (f:=ze) (val:=id) (G:=G) h0 (m:=(aP s).1) (s:=((aP s).2,0)) (λ q=>(h2 q).2) ⟨h1,λ _=>hc⟩ (nM (ok:=vB) (f:=ze) (val:=id) (okb:=LO) h0 (λ p x l hx g=>by
  obtain ⟨a1,a2,a3,a4,a5,a6⟩:=hx
  have g':At X p.1 (db x.1++(uv (x.2.2.1-x.2.1).toNat++(pN x.2.2.2++(l.flatMap gJ++r)))):=by
   have e:(x::l).flatMap gJ++r=db x.1++(uv (x.2.2.1-x.2.1).toNat++(pN x.2.2.2++(l.flatMap gJ++r))):=by rw [List.flatMap_cons,show gJ x=db x.1++(uv (x.2.2.1-x.2.1).toNat++pN x.2.2.2) from rfl];simp only [List.append_assoc]
   rw [<-e];exact g.1
  obtain ⟨b1,b2⟩:=qJ g' a1
  obtain ⟨c1,c2⟩:=gA b1 (by omega)
  obtain ⟨d1,d2⟩:=IS c1 a2 a3
  have key:(ze p).2.1.1=true->p.1.1=true/\(aO p.1).1=x.1/\(aP (aO p.1).2).1=(x.2.2.1-x.2.1).toNat/\(oE (aP (aO p.1).2).2).1=x.2.2.2:=λ q=>by
   obtain ⟨q1,q2⟩:=d2 q;obtain ⟨q3,q4⟩:=c2 q1;obtain ⟨q5,q6⟩:=b2 q3
   exact ⟨q5,q6,q4,q2⟩
  refine ⟨⟨d1,λ q=> ?_⟩,λ q=> ?_⟩
  ·obtain ⟨q1,q2,q3,q4⟩:=key q
   have h9:=g.2 q1
   have e:((ze p).2.2:Int)=x.2.2.1:=by
    show ((p.2+(aP (aO p.1).2).1:Nat):Int)=_
    have:=h9.1;rw [q3];omega
   rw [e];exact h9.2
  ·obtain ⟨q1,q2,q3,q4⟩:=key q
   have h9:=(g.2 q1).1
   refine ⟨q1,?_⟩
   show ((aO p.1).1,((p.2:Nat):Int),((p.2+(aP (aO p.1).2).1:Nat):Int),(oE (aP (aO p.1).2).2).1)=x
   rw [q2,q3,q4]
   exact Prod.ext rfl (Prod.ext h9.symm (Prod.ext (by simp only;omega) rfl))) l ((aP s).2,0) hx ⟨h1,λ _=>hc⟩)
 refine ⟨key.1.1,λ q=> ?_⟩
 obtain ⟨k1,k2⟩:=key.2 q
 rw [List.map_id] at k2
 exact ⟨(h2 k1).1,k2⟩
theorem Kk {X:Bool} {s:RS} {r:List Nat} {l:List ky} (h:At X s (uv l.length++(fg 0 l++r))) (hl:l.length<=1073741824) (hx:∀ x∈l,LO x) (hc:J5 0 l):At X (dL s 0).2.1 r/\((dL s 0).2.1.1=true->s.1=true/\(dL s 0).1=l):=by
 obtain ⟨h1,h2⟩:=gA h hl
 let G:List ky->RS×Nat->Prop:=λ l p=>At X p.1 (fg (p.2:Int) l++r)/\(p.1.1=true->J5 (p.2:Int) l)
 have h0:∀ (s:RS×Nat) (l:List ky),vB s=false->G l s->G [] s:=λ s l q g=>⟨g.1.off q,λ q2=>(by rw [show s.1.1=false from q] at q2;cases q2)⟩
 have key:=qK (ok:=vB) (f:=wO) (val:=id) (G:=G) h0 (m:=(aP s).1) (s:=((aP s).2,0)) (λ q=>(h2 q).2) ⟨h1,λ _=>hc⟩ (nM (ok:=vB) (f:=wO) (val:=id) (okb:=LO) h0 (λ p x l hx g=>by
  obtain ⟨a1,a2,a3,a4,a5,a6⟩:=hx
  have g':At X p.1 (db x.1++(uv (x.2.1-(p.2:Int)).toNat++(uv (x.2.2.1-x.2.1).toNat++(pN x.2.2.2++(fg x.2.1 l++r))))):=by
   have e:fg (p.2:Int) (x::l)++r=db x.1++(uv (x.2.1-(p.2:Int)).toNat++(uv (x.2.2.1-x.2.1).toNat++(pN x.2.2.2++(fg x.2.1 l++r)))):=by rw [fg];unfold J4;simp only [List.append_assoc]
   rw [<-e];exact g.1
  obtain ⟨b1,b2⟩:=qJ g' a1
  obtain ⟨c1,c2⟩:=gA b1 (by omega)
  obtain ⟨e1,e2⟩:=gA c1 (by omega)
  obtain ⟨d1,d2⟩:=IS e1 a2 a3
  have key:(wO p).2.1.1=true->p.1.1=true/\(aO p.1).1=x.1/\(aP (aO p.1).2).1=(x.2.1-(p.2:Int)).toNat/\(aP (aP (aO p.1).2).2).1=(x.2.2.1-x.2.1).toNat/\(oE (aP (aP (aO p.1).2).2).2).1=x.2.2.2:=λ q=>by
   obtain ⟨q1,q2⟩:=d2 q;obtain ⟨q7,q8⟩:=e2 q1;obtain ⟨q3,q4⟩:=c2 q7;obtain ⟨q5,q6⟩:=b2 q3
   exact ⟨q5,q6,q4,q8,q2⟩
  have hat:(wO p).2.1.1=true->((wO p).2.2:Int)=x.2.1:=λ q=>by
   obtain ⟨q1,q2,q3,q4,q5⟩:=key q
   have h9:=(g.2 q1).1
   show ((p.2+(aP (aO p.1).2).1:Nat):Int)=_
   rw [q3];omega
  refine ⟨⟨?_,λ q=> ?_⟩,λ q=> ?_⟩
  ·rcases Bool.eq_false_or_eq_true (wO p).2.1.1 with q|q
   ·rw [hat q];exact d1
   ·exact At.off d1 q
  ·obtain ⟨q1,_⟩:=key q
   rw [hat q];exact (g.2 q1).2
  ·obtain ⟨q1,q2,q3,q4,q5⟩:=key q
   have h9:=(g.2 q1).1
   refine ⟨q1,?_⟩
   show ((aO p.1).1,((p.2+(aP (aO p.1).2).1:Nat):Int),((p.2+(aP (aO p.1).2).1+(aP (aP (aO p.1).2).2).1:Nat):Int),(oE (aP (aP (aO p.1).2).2).2).1)=x
   rw [q2,q3,q4,q5]
   exact Prod.ext rfl (Prod.ext (by simp only;omega) (Prod.ext (by simp only;omega) rfl))) l ((aP s).2,0) hx ⟨h1,λ _=>hc⟩)
 refine ⟨key.1.1,λ q=> ?_⟩
 obtain ⟨k1,k2⟩:=key.2 q
 rw [List.map_id] at k2
 exact ⟨(h2 k1).1,k2⟩
def LP (x:Nd):Prop:=x.nm.size<=1073741824/\-1<=x.p/\x.p<1073741824/\0<=x.b/\x.b<=x.e/\x.e<=1073741824
theorem Kl {X:Bool} {s:RS} {r:List Nat} {l:List Nd} (h:At X s (uv l.length++(l.flatMap rE++r))) (hl:l.length<=1073741824) (hx:∀ x∈l,LP x):At X (ep s).2 r/\((ep s).2.1=true->s.1=true/\(ep s).1=l):=by
 obtain ⟨h1,h2⟩:=gA h hl
 let G:List Nd->RS->Prop:=λ l p=>At X p (l.flatMap rE++r)
 have h0:∀ (s:RS) (l:List Nd),s.1=false->G l s->G [] s:=λ s l q g=>At.off g q
 have key:=qK (ok:=Prod.fst) (f:=Ei) (val:=id) (G:=G) h0 (m:=(aP s).1) (λ q=>(h2 q).2) h1 (nM (ok:=Prod.fst) (f:=Ei) (val:=id) (okb:=LP) h0 (λ p x l hx g=>by
  obtain ⟨a1,a2,a3,a4,a5,a6⟩:=hx
  have g':At X p (db x.nm++(uv (x.p+1).toNat++(uv x.b.toNat++(uv (x.e-x.b).toNat++(l.flatMap rE++r))))):=by
   have e:(x::l).flatMap rE++r=db x.nm++(uv (x.p+1).toNat++(uv x.b.toNat++(uv (x.e-x.b).toNat++(l.flatMap rE++r)))):=by rw [List.flatMap_cons];unfold rE;simp only [List.append_assoc]
   rw [<-e];exact g
  obtain ⟨b1,b2⟩:=qJ g' a1
  obtain ⟨c1,c2⟩:=gA b1 (by omega)
  obtain ⟨d1,d2⟩:=gA c1 (by omega)
  obtain ⟨e1,e2⟩:=gA d1 (by omega)
  refine ⟨e1,λ q=> ?_⟩
  obtain ⟨q1,q2⟩:=e2 q;obtain ⟨q3,q4⟩:=d2 q1;obtain ⟨q5,q6⟩:=c2 q3;obtain ⟨q7,q8⟩:=b2 q5
  refine ⟨q7,?_⟩
  show (⟨(aO p).1,((aP (aP (aO p).2).2).1:Int),(((aP (aP (aO p).2).2).1+(aP (aP (aP (aO p).2).2).2).1:Nat):Int),((aP (aO p).2).1:Int)-1⟩:Nd)=x
  rw [q2,q4,q6,q8]
  obtain ⟨x1,x2,x3,x4⟩:=x
  simp only at a2 a3 a4 a5 a6⊢
  rw [Nd.mk.injEq]
  exact ⟨rfl,by omega,by omega,by omega⟩) l (aP s).2 hx h1)
 refine ⟨key.1,λ q=> ?_⟩
 obtain ⟨k1,k2⟩:=key.2 q
 rw [List.map_id] at k2
 exact ⟨(h2 k1).1,k2⟩
def LQ (x:Int×ByteArray):Prop:= -1<=x.1/\x.1<1073741824/\x.2.size<=1073741824
theorem Km {X:Bool} {s:RS} {r:List Nat} {l:List (Int×ByteArray)} (h:At X s (uv l.length++(l.flatMap rF++r))) (hl:l.length<=1073741824) (hx:∀ x∈l,LQ x):At X (fk s).2 r/\((fk s).2.1=true->s.1=true/\(fk s).1=l):=by
 obtain ⟨h1,h2⟩:=gA h hl
 let G:List (Int×ByteArray)->RS->Prop:=λ l p=>At X p (l.flatMap rF++r)
 have h0:∀ (s:RS) (l:List (Int×ByteArray)),s.1=false->G l s->G [] s:=λ s l q g=>At.off g q
 have key:=qK (ok:=Prod.fst) (f:=Aw) (val:=id) (G:=G) h0 (m:=(aP s).1) (λ q=>(h2 q).2) h1 (nM (ok:=Prod.fst) (f:=Aw) (val:=id) (okb:=LQ) h0 (λ p x l hx g=>by
  obtain ⟨a1,a2,a3⟩:=hx
  have g':At X p (uv (x.1+1).toNat++(db x.2++(l.flatMap rF++r))):=by
   have e:(x::l).flatMap rF++r=uv (x.1+1).toNat++(db x.2++(l.flatMap rF++r)):=by rw [List.flatMap_cons];unfold rF;simp only [List.append_assoc]
   rw [<-e];exact g
  obtain ⟨b1,b2⟩:=gA g' (by omega)
  obtain ⟨c1,c2⟩:=qJ b1 a3
  refine ⟨c1,λ q=> ?_⟩
  obtain ⟨q1,q2⟩:=c2 q;obtain ⟨q3,q4⟩:=b2 q1
  refine ⟨q3,?_⟩
  show (((aP p).1:Int)-1,(aO (aP p).2).1)=x
  rw [q2,q4]
  exact Prod.ext (by simp only;omega) rfl) l (aP s).2 hx h1)
 refine ⟨key.1,λ q=> ?_⟩
 obtain ⟨k1,k2⟩:=key.2 q
 rw [List.map_id] at k2
 exact ⟨(h2 k1).1,k2⟩
def FC (c:Co):List Nat:=uv c.tx.length++(c.tx.flatMap (λ x=>gJ x.v)++(uv c.rg.length++(fg 0 (c.rg.map Iv.v)++Ej c.nd c.hd c.rl)))
theorem Kn (X:List ByteArray->List Nat) (T:List Nat->List Nat) (c:Co):fo X T c.v=[67,83,49]++(uv c.at_.length++(gI X T c.v.at_ c.v.tk c.at_.length++FC c)):=pz X T c
theorem Jb {x:Iv} (h1:bk x.nm=true) (h2:okPs x.ps) (h3:0<=x.b/\x.b<=x.e/\x.e<=1073741824):LO x.v:=by
 have a1:=bA h1
 refine ⟨by show x.nm.size<=_;omega,by show x.ps.length<=_;have:=h2.1;omega,λ p hp=> ?_,h3⟩
 have h4:=h2.2.1 p hp
 have:=bA h4.1;have:=gK h4.2
 exact ⟨by omega,by omega⟩
theorem tail_at {X:Bool} {s:RS} {n:Nat} {c:Co} (ho:OkC n c) (hn:n<=3) (h:At X s (FC c)):At X (fk (ep (dL (dx s 0).2.1 0).2.1).2).2 []/\((fk (ep (dL (dx s 0).2.1 0).2.1).2).2.1=true->s.1=true/\(dx s 0).1=c.tx.map Iv.v/\(dL (dx s 0).2.1 0).1=c.rg.map Iv.v/\(ep (dL (dx s 0).2.1 0).2.1).1=c.nd/\(fk (ep (dL (dx s 0).2.1 0).2.1).2).1=c.hd.zip c.rl):=by
 have h1:=ho.ntk;have h2:=ho.ntx;have h3:=ho.nrg;have h4:=ho.nnd;have h5:=ho.Iu hn
 have hv:=ho.MS (Nat.le_trans hn (by decide))
 have e1:(c.tx.map Iv.v).length=c.tx.length:=List.length_map ..
 have e2:(c.rg.map Iv.v).length=c.rg.length:=List.length_map ..
 have e3:(c.tx.map Iv.v).flatMap gJ=c.tx.flatMap λ x=>gJ x.v:=List.flatMap_map ..
 have e4:(c.hd.zip c.rl).length=c.hd.length:=by rw [List.length_zip];omega
 unfold FC at h
 rw [<-e1,<-e3,<-e2] at h
 obtain ⟨A1,B1⟩:=Kj h (by omega) (λ x hx=>by
  obtain ⟨y,hy,rfl⟩:=List.mem_map.1 hx
  obtain ⟨q1,q2,q3,q4,q5⟩:=ho.tx.nm y hy
  exact Jb q1 q2 ⟨q3,by omega,by omega⟩) hv.xc
 obtain ⟨A2,B2⟩:=Kk A1 (by omega) (λ x hx=>by
  obtain ⟨y,hy,rfl⟩:=List.mem_map.1 hx
  obtain ⟨q1,q2,q3⟩:=ho.rg.el y hy
  have:=q2.bd ho.tx
  exact Jb q1 q3 ⟨by omega,by omega,by omega⟩) hv.rc
 unfold Ej at A2
 obtain ⟨A3,B3⟩:=Kl A2 (by omega) (λ x hx=>by
  obtain ⟨q1,q2⟩:=ho.nd.el x hx
  have q3:=q2.bd ho.tx
  obtain ⟨i,hi⟩:=List.getElem?_of_mem hx
  have q4:=ho.nd.par i x hi
  have q5:=(List.getElem?_eq_some_iff.1 hi).1
  have q6:=bA q1
  exact ⟨by omega,by omega,by omega,by omega,by omega,by omega⟩)
 rw [<-e4,<-List.append_nil ((c.hd.zip c.rl).flatMap rF)] at A3
 obtain ⟨A4,B4⟩:=Km A3 (by omega) (λ x hx=>by
  obtain ⟨i,hi⟩:=List.getElem?_of_mem hx
  rw [List.getElem?_zip_eq_some] at hi
  have:=ho.Ny hn hi.1 hi.2
  exact ⟨by omega,by omega,by omega⟩)
 refine ⟨A4,λ q=> ?_⟩
 obtain ⟨q1,q2⟩:=B4 q;obtain ⟨q3,q4⟩:=B3 q1;obtain ⟨q5,q6⟩:=B2 q3;obtain ⟨q7,q8⟩:=B1 q5
 exact ⟨q7,q8,q6,q4,q2⟩
theorem N8 {c:Co} {as_:List (ByteArray×Bool)} {S:List (SV×List ByteArray)} {tx rg:List Iv} {nd:List Nd} {hz:List (Int×ByteArray)} {va vt vx vr vn vh vl:Value} (h1:as_=c.at_) (h2:S.map Prod.snd=c.tk.map (·.ns)) (h3:tx.map Iv.v=c.tx.map Iv.v) (h4:rg.map Iv.v=c.rg.map Iv.v) (h5:nd=c.nd) (h6:hz=c.hd.zip c.rl) (h7:c.hd.length=c.rl.length):
  c.v=(Co.mk va vt vx vr vn vh vl as_ (S.map λ p=>(⟨p.1,p.2⟩:Tk)) tx rg nd (hz.map Prod.fst) (hz.map Prod.snd)).v:=by
 have e1:(S.map λ p=>(⟨p.1,p.2⟩:Tk)).map (·.ns)=c.tk.map (·.ns):=by rw [List.map_map,<-h2];rfl
 have e2:hz.map Prod.fst=c.hd:=by rw [h6,List.map_fst_zip (by omega)]
 have e3:hz.map Prod.snd=c.rl:=by rw [h6,List.map_snd_zip (by omega)]
 unfold Co.v
 simp only
 rw [h1,e1,h3,h4,h5,e2,e3]
def rI:Co:=⟨.slice none 0 0,.slice none 0 0,.slice none 0 0,.slice none 0 0,.slice none 0 0,.slice none 0 0,.slice none 0 0,[],[],[],[],[],[],[]⟩
theorem uV (w:World):RdC w rI:=⟨RdL.nil _ _,RdL.nil _ _,RdL.nil _ _,RdL.nil _ _,RdL.nil _ _,RdL.nil _ _,RdL.nil _ _,λ t h=>(by cases h),λ t h=>(by cases h),λ t h=>(by cases h)⟩
theorem LR {w:World} {v:Value} {S:List (SV×List ByteArray)} (h:RdL w v (bC ByteArray) S):RdL w v ib (S.map λ p=>(⟨p.1,p.2⟩:Tk)):=by
 have e:ib.all (S.map λ p=>(⟨p.1,p.2⟩:Tk))=(bC ByteArray).all S:=by
  unfold Enc.all
  rw [List.flatMap_map];rfl
 unfold RdL at h⊢
 rw [e,List.length_map];exact h
end Go.Kw
