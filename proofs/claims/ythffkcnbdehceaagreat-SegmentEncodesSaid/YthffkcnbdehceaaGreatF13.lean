/-The walks of the functions of F13,printed by our own program (kwgen.py) out of our descriptions (base.py). -/
import Derived.Test.YthffkcnbdehceaaGreatKd
import Derived.Test.YthffkcnbdehceaaGreatF01
import Derived.Test.YthffkcnbdehceaaGreatF15
open List
open Go.Proofs.Tryz
set_option linter.unusedVariables false
set_option linter.unusedSimpArgs false
set_option linter.unusedSectionVars false
namespace Go.Proofs.YthffkcnbdehceaaGreat
open Go.RowKit Go.Kw
set_option maxRecDepth 100000
theorem Eg (w0 w:World) (cs:List Chunk) (i:Nat) (v:Value) (l:List ByteArray) (hs:Sat w0 cs w) (hi:cs[i]? =some (cL v 9 ax l)) (hn:l.length<4611686018427387904):
  CallsV prog 56 [v] w λ r w'=>r= .tuple #[]/\Sat w0 (cs.set i (cL v 9 ax (iJ l))) w':=by
 have hi':cs[i]? =some (pj v 9 1 l.length ((l.map λ s=>s.data.toList).map Go.Proofs.encStr)):=by rw [<-xB];exact hi
 rcases hs.Cd hi' with ⟨h0,rfl⟩|⟨g,cap,rfl⟩
 ·have hl:l=[]:=Q2 h0
  subst hl
  refine Rg (Go.Proofs.Any.slices_Sort_string_none Tryz.lays190 none 0 w) ?_
  rintro e w' ⟨rfl,rfl⟩
  have e1:cs.set i (cL (.slice none 0 0) 9 ax (iJ []))=cs:=by
   obtain ⟨hil,hci⟩:=AT.1 hi
   have:iJ []=[]:=by simp [iJ]
   rw [this,<-hci];exact St hil
  exact ⟨_,rfl,rfl,by rw [e1];exact hs⟩
 have hlen:(l.map λ s=>s.data.toList).length=l.length:=No ..
 obtain ⟨hH,hg⟩:=hs.HF hlen hi'
 have hc:=Tryz.slices_Sort_string g 0 cap (l.map λ s=>s.data.toList) w hH hg (by rw [hlen];exact hn)
 rw [hlen] at hc
 refine Rg hc ?_
 rintro e w' ⟨rfl,n,os,rfl⟩
 have h2:=hs.HD hlen hi' ((l.map λ s=>s.data.toList).mergeSort λ x y=>decide (x<=y)) (by simp) n os
 have e2:pj (.slice (some ⟨g,0,none⟩) l.length cap) 9 1 l.length (((l.map λ s=>s.data.toList).mergeSort λ x y=>decide (x<=y)).map Go.Proofs.encStr)=cL (.slice (some ⟨g,0,none⟩) l.length cap) 9 ax (iJ l):=by
  unfold cL
  rw [xB,n2]
  have:(iJ l).map (λ s=>s.data.toList)=(l.map λ s=>s.data.toList).mergeSort λ x y=>decide (x<=y):=by
   unfold iJ;rw [Sf];exact map_id' _
  rw [this]<;>rfl
 rw [e2] at h2
 exact ⟨_,rfl,rfl,h2⟩
theorem Eh (w0 w:World) (cs:List Chunk) (i m:Nat) (v:Value) (l:List Nat) (g:FuncId) (cap:Array Value) (R:Nat->Nat->Prop) [DecidableRel R] (hs:Sat w0 cs w) (hi:cs[i]? =some (cL v 3 (aa .i64) l)) (hn:l.length<4611686018427387904)
  (hm:∀ x∈l,x<m) (hent:Enters prog g) (cf:Nat->Nat->Int) (hcf:∀ x y,cf x y<0↔R x y) (irr:∀ a,¬ R a a) (tr:∀ {a b c},R a b->R b c->R a c) (ntr:∀ {a b c},¬ R a b->¬ R b c->¬ R a c)
  (hcmp:∀ x y l' W,x<m->y<m->l'.length=l.length->Sat w0 (cs.set i (cL v 3 (aa .i64) l')) W->CallsV prog g ([.int .i64 (x:Int),.int .i64 (y:Int)]++cap.toList) W λ r W'=>r= .int .i64 (cf x y)/\Sat W [] W'/\W.drawn<=W'.drawn):
  CallsV prog 184 [v,.func (.func g) #[] cap] w λ r w'=>r= .tuple #[]/\∃ l',l'.Perm l/\l'.Pairwise (λ a b=>¬ R b a)/\Sat w0 (cs.set i (cL v 3 (aa .i64) l')) w':=by
 have hi':cs[i]? =some (pj v 3 1 l.length (l.map λ (x:Nat)=>Value.int .i64 (x:Int))):=by rw [<-xC];exact hi
 obtain ⟨hil,hci⟩:=AT.1 hi
 rcases hs.Cd hi' with ⟨h0,rfl⟩|⟨b,c,rfl⟩
 ·have hl:l=[]:=Q2 h0
  subst hl
  refine Rg (Tryz.slices_SortFunc_none (α:=Nat) none 0 _ w) ?_
  rintro e w' ⟨rfl,rfl⟩
  exact ⟨_,rfl,rfl,[],List.Perm.refl _,List.Pairwise.nil,by rw [<-hci,St hil];exact hs⟩
 by_cases h0:l=[]
 ·subst h0
  refine Rg (Tryz.slices_SortFunc_none (α:=Nat) _ c _ w) ?_
  rintro e w' ⟨rfl,rfl⟩
  exact ⟨_,rfl,rfl,[],List.Perm.refl _,List.Pairwise.nil,by rw [<-hci,St hil];exact hs⟩
 have hm0:0<m:=by
  cases l with
  |nil=>exact absurd rfl h0
  |cons x r=>have:=hm x (QD ..);omega
 haveI:Inhabited (Fin m):=⟨⟨0,hm0⟩⟩
 obtain ⟨ds,hds⟩:∃ ds:List (Fin m),ds.map Fin.val=l:=⟨l.pmap (λ x hx=>(⟨x,hx⟩:Fin m)) hm,by rw [map_pmap];simp⟩
 have hlen:ds.length=l.length:=by rw [<-hds,No]
 have henc:l.map (λ (x:Nat)=>Value.int .i64 (x:Int))=ds.map (λ x:Fin m=>Value.int .i64 ((x.val:Nat):Int)):=by rw [<-hds,Sf]<;>rfl
 rw [henc] at hi'
 obtain ⟨hH,hg⟩:=hs.HF hlen hi'
 have eL:∀ ts:List (Fin m),ts.length=l.length->pj (.slice (some ⟨b,0,none⟩) l.length c) 3 1 l.length (ts.map (λ x:Fin m=>Value.int .i64 ((x.val:Nat):Int)))=cL (.slice (some ⟨b,0,none⟩) l.length c) 3 (aa .i64) (ts.map Fin.val):=λ ts ht=>by
  unfold cL
  rw [xC,No,Sf,ht]<;>rfl
 have hcm:Go.Proofs.CmpLays1 prog g cap (λ x:Fin m=>Value.int .i64 ((x.val:Nat):Int)) (λ x y=>cf x.val y.val) b 0 ds.toArray.size w:=by
  intro k os dk hk x y
  have hdk:dk.toList.length=l.length:=by rw [QU,hk];simpa using hlen
  have h2:=hs.HD hlen hi' dk.toList hdk k os
  rw [eL _ hdk] at h2
  have hc:=hcmp x.val y.val (dk.toList.map Fin.val) _ x.isLt y.isLt (by rw [No,hdk]) h2
  rw [show dk.toList.toArray=dk by simp] at hc
  have e3:([Value.int .i64 ((x.val:Nat):Int),Value.int .i64 ((y.val:Nat):Int)]++cap.toList).toArray= #[Value.int .i64 ((x.val:Nat):Int),Value.int .i64 ((y.val:Nat):Int)]++cap:=by simp
  unfold CallsV at hc
  rw [e3] at hc
  refine Rg hc ?_
  rintro e w' ⟨r,rfl,rfl,hS,hd⟩
  exact ⟨rfl,Go.Kw.Below.grown_of hS.old hd⟩
 have hO:Go.Sort.SWO (Go.Proofs.ltOf λ x y:Fin m=>cf x.val y.val):=by
  refine ⟨λ x=>IN λ h=>irr _ ((hcf _ _).1 h),λ x y z h1 h2=>PM ((hcf _ _).2 (tr ((hcf _ _).1 (Qw h1)) ((hcf _ _).1 (Qw h2)))),λ x y z h1 h2=>IN λ h=> ?_⟩
  exact ntr (λ h'=>Rm h1 ((hcf _ _).2 h')) (λ h'=>Rm h2 ((hcf _ _).2 h')) ((hcf _ _).1 h)
 have hc:=Tryz.slices_SortFunc (λ x:Fin m=>Value.int .i64 ((x.val:Nat):Int)) (λ _=>rfl) (λ x y:Fin m=>cf x.val y.val) hO g cap b 0 c ds.toArray w hent hcm hH hg (by simpa [hlen] using hn)
 have hsz:ds.toArray.size=l.length:=by simpa using hlen
 rw [hsz] at hc
 refine Rg hc ?_
 rintro e w' ⟨rfl,d',n,os,hP,hS,rfl⟩
 have hd':d'.toList.length=l.length:=by rw [QU,hP.1,hsz]
 have h2:=hs.HD hlen hi' d'.toList hd' n os
 rw [eL _ hd',show d'.toList.toArray=d' by simp] at h2
 refine ⟨_,rfl,rfl,d'.toList.map Fin.val,?_,?_,h2⟩
 ·rw [<-hds]
  refine List.Perm.map _ ?_
  have h3:=hP.2.2
  rw [show d'.extract 0 l.length=d' by rw [show l.length=d'.size by rw [hP.1,hsz]];simp,show ds.toArray.extract 0 l.length=ds.toArray by rw [show l.length=ds.toArray.size by rw [hsz]];simp] at h3
  exact h3
 rw [Tp,QS]
 intro p q hp hq hpq hR
 have h4:=hS p q (KD _) hpq (by rw [<-hd'];exact hq)
 have e5:∀ k (hk:k<d'.toList.length),d'[k]! =d'.toList[k]:=λ k hk=>by
  rw [getElem!_pos d' k (by simpa using hk)]<;>rfl
 rw [e5 p hp,e5 q hq] at h4
 exact Rm h4 ((hcf _ _).2 hR)
theorem zw (a b:ByteArray) (w:World):CallsV prog 186 [.string a,.string b] w λ r w'=>r= .int .i64 (Lib.compareBytes a.data.toList b.data.toList)/\w'=w:=by
 refine Rg (Tryz.strings_Compare a b w) ?_
 rintro e w' ⟨rfl,rfl⟩;exact ⟨_,rfl,rfl,rfl⟩
theorem Cx (f:FuncId) (cap:Array Value) (n:Nat) (p:Nat->Bool) (w:World) (ent:Enters prog f) (hn:n<4611686018427387904)
  (hf:∀ i w',i<n->Sat w [] w'->CallsV prog f ([.int .i64 (i:Int)]++cap.toList) w' λ r w''=>r= .bool (p i)/\Sat w' [] w'') (hmono:∀ a b,a<=b->b<n->p a=true->p b=true):
  CallsV prog 108 [(.int .i64 n),(.func (.func f) #[] cap)] w λ r w'=>∃ k,r= .int .i64 ((k:Nat):Int)/\k<=n/\(∀ i,i<k->p i=false)/\(∀ i,k<=i->i<n->p i=true)/\Sat w [] w':=by
 refine cg func108 rfl λ hs0=> .Z rfl<| .Z rfl<| .seq<| .block<| .lq [1] rfl (α:=Nat×Nat) (λ (i,j)=>[(5,(.int .i64 i)),(6,(.int .i64 j))]) (λ (i,j) w'=>Sat w [] w'/\(i<=j)/\(j<=n)/\(∀ q,q<i->p q=false)/\(∀ q,j<=q->q<n->p q=true)) (λ (i,j)=>j-i) (0,n) ⟨hs0,KD _,KB _,λ q hq=>absurd hq (TL q),λ q hq hn=>absurd hn (by omega)⟩ ?_
 rintro ⟨i,j⟩ w1 ⟨s1,hij,hjn,h1,h2⟩
 refine .seq<| .Z rfl<| .ae rfl (λ c1=> ?_) λ c1=> ?_
 ·refine .skip<| .block<| .Z rfl<| .h<| .b 2 rfl (.yV ent rfl rfl ((hf (((i+j)/2^1)) _ (by omega) s1).mono λ r1 _ h_1=> ?_))
  obtain ⟨rfl,p1⟩:=h_1
  have s2:=s1.az p1
  refine .e rfl (.cO rfl)<| .nil<| .cond rfl (λ c2=> ?_) (λ c2=> ?_)
  ·refine .U rfl ?_
   exact aT ((((i+j)/2^1)+1),j) ⟨s2,by omega,by omega,λ q hq=>by
   rcases QK (p q) with hp|hp
   ·have:=hmono q _ (show q<=(i+j)/2^1 by omega) (by omega) hp
    rw [this] at c2;simp at c2
   ·exact hp,h2⟩
  refine .U rfl ?_
  exact aT (i,((i+j)/2^1)) ⟨s2,by omega,by omega,h1,λ q hq hqn=>hmono _ q hq hqn (by simpa using c2)⟩
 refine .ao<| .Z rfl<| .aC rfl rfl ?_
 have hij2:i=j:=by omega
 subst hij2
 exact ⟨i,rfl,by omega,h1,h2,s1⟩
theorem zx (B1 B2:Nat) (g:Nat) (vw vc vo:Value) (W:List ByteArray) (C O:List Nat) (s:ByteArray) (i:Nat) (w:World) (h1:w.cell? ⟨B1,0,none⟩=some (.pointer (some ⟨g,0,none⟩))) (h2:w.cell? ⟨B2,0,none⟩=some (.string s)) (h:LexAt w g vw vc vo W C O) (hi:i<W.length):
  CallsV prog 109 [(.int .i64 i),(.pointer (some ⟨B1,0,none⟩)),(.pointer (some ⟨B2,0,none⟩))] w λ r w'=>r= .bool (decide (¬ SLt (W.getD i ByteArray.empty) s))/\Sat w [] w':=by
 refine cg func109 rfl λ hs0=> .Z rfl<| .seq ?_
 obtain ⟨x,hx⟩:∃ x,W[i]? =some x:=⟨_,py (by omega)⟩
 refine .dk [] hs0 rfl (pl [0,1,2,3,4,5,6,7,8,9] .fin) λ s1 S1=> .e rfl (λ _ q=> .load JR rfl (q.ext _ _ h1)) S1<| .z 2 S1 rfl<| .e rfl (λ _ q=> .load fj rfl (q.ext _ _ h.c0)) S1<| .ix 1 S1 (h.hW.ext ·.ext) rfl<| .le 0 S1 (h.hW.ext ·.ext) hx rfl<| .e rfl (λ _ q=> .load NP rfl (q.ext _ _ h2)) S1<| .e rfl (λ _ q=> .sC rfl rfl) S1<| .Z S1 rfl<| .aC rfl rfl ?_
 rw [cF hx]
 exact ⟨rfl,s1⟩
theorem AR (g:Nat) (vw vc vo:Value) (W:List ByteArray) (C O:List Nat) (w:World) (h:LexAt w g vw vc vo W C O):
  CallsV prog 54 [(.pointer (some ⟨g,0,none⟩))] w λ r w'=>r= .int .i64 ((W.length:Nat):Int)/\Sat w [] w':=by
 refine cg func54 rfl λ hs0=> .Z rfl<| .h<| .a 3 rfl (.load fj rfl (hs0.ext _ _ h.c0))<| .ln 0 (h.hW.ext hs0.ext) rfl<| .Z rfl<| .aC rfl rfl ?_
 exact ⟨rfl,hs0⟩
theorem Ib (g:Nat) (vw vc vo:Value) (W:List ByteArray) (C O:List Nat) (n:Int) (w:World) (h:LexAt w g vw vc vo W C O):
  CallsV prog 55 [(.pointer (some ⟨g,0,none⟩)),(.int .i64 (n))] w λ r w'=>r= .tuple #[.string (j8 W n).1,.bool (j8 W n).2]/\Sat w [] w':=by
 refine cg func55 rfl λ hs0=> .Z rfl<| .seq<| .seq<| .bN 16 (((n:Int)<(0:Int))\/(((W.length:Nat):Int)<=(n:Int))) ?_ ?_
 ·refine .a 1 rfl (.lss rfl rfl)<| .z 1 rfl<| .B 8 rfl (λ g1=> ?_) λ g1=> ?_
  ·refine .M rfl (by simp [g1])
  refine .a 4 rfl (.load fj rfl (hs0.ext _ _ h.c0))<| .ln 0 (h.hW.ext hs0.ext) rfl<| .a 0 rfl (.geq rfl rfl)<| .M rfl (by simp [g1])
 refine .ae rfl (λ c1=> ?_) λ c1=> ?_
 ·refine .Z rfl<| .cj rfl rfl rfl ?_
  have hq:j8 W n=(ByteArray.empty,false):=by unfold j8;rw [M2 (by omega)]
  rw [hq]
  exact ⟨rfl,hs0⟩
 refine .skip<| .seq ?_
 obtain ⟨m,rfl⟩:∃ m:Nat,n=m:=⟨n.toNat,by omega⟩
 obtain ⟨x,hx⟩:∃ x,W[m]? =some x:=⟨_,py (by omega)⟩
 refine .region<| .a 3 rfl (.load fj rfl (hs0.ext _ _ h.c0))<| .ix 1 (h.hW.ext hs0.ext) rfl<| .le 0 (h.hW.ext hs0.ext) hx rfl<| .Z rfl<| .cj rfl rfl rfl ?_
 have hq:j8 W (m:Int)=(x,true):=by unfold j8;rw [PI (by omega),Rq,cF hx]
 rw [hq]
 exact ⟨rfl,hs0⟩
theorem Cy (g:Nat) (vw vc vo:Value) (W:List ByteArray) (C O:List Nat) (s:ByteArray) (w:World) (h:LexAt w g vw vc vo W C O) (hasc:Asc W) (hn:W.length<4611686018427387904):
  CallsV prog 57 [(.pointer (some ⟨g,0,none⟩)),(.string s)] w λ r w'=>r= .tuple #[.int .i64 (((HP W s).1:Nat):Int),.bool (HP W s).2]/\Sat w [] w':=by
 refine cg func57 rfl λ hs0=> .h<| .bx 0 hs0 rfl λ b1 _ s1 _ _=> .bx 0 s1 rfl λ b2 _ s2 _ _=> .Z rfl<| .h<| .ld 0 s2 0 rfl<| .a 2 rfl (.load fj rfl (s2.ext _ _ h.c0))<| .ln 0 (h.hW.ext s2.ext) rfl<| .e rfl (.uJ rfl rfl)<| .c 0 (Cx 109 #[(.pointer (some ⟨b1,0,none⟩)),(.pointer (some ⟨b2,0,none⟩))] (W.length) (λ i=>decide (¬ SLt (W.getD i ByteArray.empty) s)) _ Mu (by omega) (λ i w3 hi hq=>zx _ _ g vw vc vo W C O s i w3 (hq.ext _ _ (s2.cell (i:=0) (j:=0) rfl rfl)) (hq.ext _ _ (s2.cell (i:=1) (j:=0) rfl rfl)) ((h.ext s2.ext).ext hq.ext) hi) (λ a b hab hb hp=>EY hasc s hab hb hp)) rfl λ r1 _ h1=> ?_
 obtain ⟨sk1,rfl,hk11,hk12,hk13,p1⟩:=h1
 have s3:=(s2.az p1).nn
 obtain rfl:sk1=bJ W s:=D9 hk11 hk12 hk13
 refine .Z rfl<| .seq<| .seq ?_
 rcases Q1 (bJ W s) W.length with hlt|hge
 ·obtain ⟨x,hx⟩:∃ x,W[bJ W s]? =some x:=⟨_,py hlt⟩
  refine .dk [0,1] s3 rfl (pl [0,1,2,3,4,5,6,7,8,9,10,11,12,13,14,15,16,17] .fin) λ s4 S1=> .ld 1 S1 0 rfl<| .z 2 S1 rfl<| .e rfl (λ _ q=> .load fj rfl (q.ext _ _ h.c0)) S1<| .ln 0 S1 (h.hW.ext ·.ext) rfl<| .z 2 S1 rfl<| .Gf 21 rfl (IN (by omega))<| .ld 0 S1 0 rfl<| .a 2 S1 rfl (λ _ q=> .load fj rfl (q.ext _ _ h.c0))<| .ix 1 S1 (h.hW.ext ·.ext) rfl<| .le 0 S1 (h.hW.ext ·.ext) hx rfl<| .ld 0 S1 1 rfl<| .a 0 S1 rfl (λ _ q=> .ed rfl rfl)<| .Z S1 rfl<| .ae rfl (λ c1=> ?_) λ c1=> ?_
  ·refine .Z rfl<| .cj rfl rfl rfl ?_
   rw [Bc hx,M2 (by simpa using c1)]
   exact ⟨rfl,s4.pk []⟩
  refine .skip<| .Z rfl<| .cj rfl rfl rfl ?_
  rw [Bc hx,PI (by simpa using c1)]
  exact ⟨rfl,s4.pk []⟩
 refine .dk [0,1] s3 rfl (pl [0,1,2,3,4,5,6,7,8,9,10,11,12,13,14,15,16,17] .fin) λ s7 S2=> .ld 1 S2 0 rfl<| .z 2 S2 rfl<| .e rfl (λ _ q=> .load fj rfl (q.ext _ _ h.c0)) S2<| .ln 0 S2 (h.hW.ext ·.ext) rfl<| .z 2 S2 rfl<| .Gt 21 rfl (PM (by have:=AD (R:=SLt) W s;omega))<| .Z S2 rfl<| .ea rfl (rfl)<| .Z rfl<| .cj rfl rfl rfl ?_
 rw [EZ hge]
 exact ⟨rfl,s7.pk []⟩
theorem Ic (bR:Nat) (vr:Value) (rs:List ByteArray) (x y:Nat) (w:World) (hc:w.cell? ⟨bR,0,none⟩=some vr) (hv:RdL w vr ax rs) (hx:x<rs.length) (hy:y<rs.length):
  CallsV prog 185 [(.int .i64 x),(.int .i64 y),(.pointer (some ⟨bR,0,none⟩))] w λ r w'=>r= .int .i64 (Lib.compareBytes (rs.getD x ByteArray.empty).data.toList (rs.getD y ByteArray.empty).data.toList)/\Sat w [] w'/\w.drawn<=w'.drawn:=by
 refine cg func185 rfl λ hs0=> .Z rfl<| .seq ?_
 obtain ⟨a,ha⟩:∃ a,rs[x]? =some a:=⟨_,py hx⟩
 obtain ⟨b,hb⟩:∃ b,rs[y]? =some b:=⟨_,py hy⟩
 refine .dk [] hs0 rfl (pl [0,1,2,3,4,5,6,7,1008,9] .fin) λ s1 S1=> .e rfl (λ _ s=> .load fj rfl (s.ext _ _ hc)) S1<| .ix 1 S1 (hv.ext ·.ext) rfl<| .le 0 S1 (hv.ext ·.ext) ha rfl<| .e rfl (λ _ s=> .load fj rfl (s.ext _ _ hc)) S1<| .ix 1 S1 (hv.ext ·.ext) rfl<| .le 0 S1 (hv.ext ·.ext) hb rfl<| .c 0 S1 (zw a b _) rfl λ r1 _ h1=> ?_
 obtain ⟨rfl,rfl⟩:=h1
 have S2:=s1.pk []
 refine ⟨S2,?_⟩
 refine .Z S2 rfl<| .aC rfl rfl ?_
 rw [cF ha,cF hb]
 exact ⟨rfl,s1,Nat.le_succ _⟩
theorem tq (w0 w:World) (cs:List Chunk) (g:Nat) (vw vc:Value) (W:List ByteArray) (hs:Sat w0 ([aq g 166 [vw,vc,.slice none 0 0],cL vw 9 ax W]++cs) w) (hok:okW W) (hsz:∀ x∈W,x.size<=1000000) (hn:W.length<=1000000) (hvc:vc.oneCell'=true):
  CallsV prog 124 [(.pointer (some ⟨g,0,none⟩))] w λ r w'=>r= .tuple #[]/\∃ vo,Sat w0 ([aq g 166 [vw,vc,vo],cL vw 9 ax W,cL vo 3 (aa .i64) (ordN W)]++cs) w':=by
 refine ai func124 rfl rfl ?_
 refine .h<| .ld 3 hs 0 rfl<| .ln 0 (hs.ah 1 rfl) rfl<| .f rfl (.cP (ax) (ByteArray.empty) bu rfl hs rfl rfl (by omega) (by omega) (by omega) λ v1 _ s1 _=> ?_)
 have s1d:=s1.mn
 refine .al 0 s1d rfl λ b1 _ s2 _ _=> ?_
 have s2d:=s2.mn
 refine .st 0 s2d 3 rfl (h1:=(s2d.ah 2 rfl).ab) λ w3 s3 _=> ?_
 have s3d:=s3.sn
 refine .nil<| .seq<| .h<| .ld 3 s3d 0 rfl<| .ln 0 (s3d.ah 1 rfl) rfl<| .Z rfl<| .block ?_
 have s4:=(s3d.aA 3 (aa .i64)).mn
 have s5:Sat w0 ([aq g 166 [vw,vc,(.slice none 0 0)],cL vw 9 (ax) (W),cL v1 9 (ax) ((List.range 0).map (qm W)++List.replicate (W.length-0) ByteArray.empty),aq b1 28 [v1],cL (Value.slice none 0 0) 3 (aa .i64) ([])]++cs) w3:=by
  have hq:List.replicate (W.length) ByteArray.empty=(List.range 0).map (qm W)++List.replicate (W.length-0) ByteArray.empty:=by simp
  rw [<-hq];exact s4
 have s6:Sat w0 ([aq g 166 [vw,vc,(.slice none 0 0)],cL vw 9 (ax) (W),cL v1 9 (ax) ((List.range 0).map (qm W)++List.replicate (W.length-0) ByteArray.empty),aq b1 28 [v1],cL (Value.slice none 0 0) 3 (aa .i64) (List.range 0)]++cs) w3:=by
  have hq:[]=List.range 0:=rfl
  rw [<-hq];exact s5
 refine .lq [0,2,14,15] rfl (α:=Nat×Value) (λ (k,vo)=>[(16,(.int .i64 k))]) (λ (k,vo) w'=>Sat w0 (s6.V [(0,aq g 166 [vw,vc,vo]),(2,cL v1 9 (ax) ((List.range k).map (qm W)++List.replicate (W.length-k) ByteArray.empty)),(4,cL vo 3 (aa .i64) (List.range k))]++cs) w'/\(k<=W.length)) (λ (k,vo)=>W.length-k) (0,(.slice none 0 0)) ⟨s6,KD _⟩ ?_
 rintro ⟨k,vo⟩ w4 ⟨s7,hk⟩
 refine .Z rfl<| .seq<| .ae rfl (λ c1=> ?_) λ c1=> ?_
 ·refine .skip<| .seq<| .block<| .seq ?_
  obtain ⟨x,hx⟩:∃ x,(W)[k]? =some x:=⟨_,py c1⟩
  refine .region<| .ix 1 (s7.ah 1 rfl) rfl<| .le 0 (s7.ah 1 rfl) hx rfl<| .Z rfl<| .seq ?_
  have hxs:=hsz x (di hx)
  have hshp1:=(s7.ah (E:=ax) 2 rfl).iH (by decide)
  refine .dt [0,1,3,4] s7 rfl (pl [0,1,2,1003,4,1005] .fin) λ s8 S1=> .ld 0 S1 2 rfl<| .c 2 S1 (zg x _ (by omega)) rfl λ r1 _ h_1=> ?_
  obtain ⟨rfl,p1⟩:=h_1
  have s9:=(s8.az p1).mn
  have S2:=s9.pt [0,1,3,4]
  refine ⟨S2,?_⟩
  refine .e rfl (λ _ s=> .kJ bu rfl rfl hshp1 (by simp;omega)) S2<| .f rfl (.cH (a:=(vz x)) 2 JP s9 rfl rfl rfl rfl (by simp;omega) λ w6 s10 _=> ?_)
  have s10d:=s10.sn
  have S3:=s10d.pt [0,1,3,4]
  refine ⟨S3,?_⟩
  refine .fin ?_
  have s11:Sat w0 ([aq g 166 [vw,vc,vo],cL vw 9 (ax) (W),cL v1 9 (ax) ((List.range (k+1)).map (qm W)++List.replicate (W.length-(k+1)) ByteArray.empty),aq b1 28 [v1],cL vo 3 (aa .i64) (List.range k)]++cs) w6:=by
   have hq:((List.range k).map (qm W)++List.replicate (W.length-k) ByteArray.empty).set k (vz x)=(List.range (k+1)).map (qm W)++List.replicate (W.length-(k+1)) ByteArray.empty:=F0 hx
   rw [<-hq];exact s10d
  refine .region<| .ld 4 s11 0 rfl<| .b 1 rfl (.bU (aa .i64) k aQ rfl s11 rfl λ v2 _ s12 _=> ?_)
  have s12d:=s12.mn
  refine .ap 0 s12d 4 (s12d.ah 5 rfl) rfl λ v3 _ s13 _=> ?_
  have s13d:=(s13.sn).pt [0,1,2,3,4]
  refine .st 2 s13d 0 rfl (h1:=(s13d.ah 4 rfl).ab) λ _ s14 _=> ?_
  have s14d:=s14.sn
  refine .nil<| .U rfl ?_
  have s15:=(s14d.aZ 4 rfl (show List.range k++[k]=List.range (k+1) from Ru.symm)).sn
  exact aT (k+1,v3) ⟨s15,by omega⟩
 refine .ao ?_
 have hkW:k=W.length:=by omega
 have s16:=(s7.aZ 2 rfl (show (List.range k).map (qm W)++List.replicate (W.length-k) ByteArray.empty=(List.range W.length).map (qm W) from by rw [hkW];simp)).sn
 have s17:=(s16.aZ 4 rfl (show List.range k=List.range W.length from by rw [hkW])).sn
 refine .region<| .ld 3 s17 0 rfl<| .e rfl (.oW rfl) ?_
 have hcall:=Eh w0 _ _ 4 W.length _ (List.range W.length) 185 #[.pointer (some ⟨b1,0,none⟩)] (HR W) s17 rfl (by simp;omega) (λ x hx=>SD.1 hx) My (λ x y=>Lib.compareBytes (qm W x).data.toList (qm W y).data.toList) (λ x y=>qL _ _) (λ a=>SLt.sD _) (λ h1 h2=>SLt.tr h1 h2) (λ h1 h2=>SLt.P9 h1 h2)
  (λ x y l2 W2 hx hy hl hS=>by
   have hlen:((List.range W.length).map (qm W)).length=W.length:=by simp
   have hc:=Ic b1 v1 ((List.range W.length).map (qm W)) x y W2 (hS.cell (i:=3) (j:=0) rfl rfl) (hS.ah 2 rfl) (by omega) (by omega)
   rw [Bd hx,Bd hy] at hc
   exact hc)
 refine .c 0 (hcall) rfl λ r2 _ h_2=> ?_
 obtain ⟨rfl,sl1,hpm,hpw,h_2S⟩:=h_2
 have hlo:sl1=ordN W:=yE hok hpm hpw
 subst hlo
 have h2d:Sat w0 ([aq g 166 [vw,vc,vo],cL vw 9 (ax) (W),cL v1 9 (ax) ((List.range W.length).map (qm W)),aq b1 28 [v1],cL vo 3 (aa .i64) (ordN W)]++cs) _:=h_2S
 refine .nil ?_
 show aL _ _ _ _ _ _
 refine cv rfl ?_
 have s18:=h2d.pt [0,1,4]
 exact ⟨rfl,_,s18⟩
theorem Cz (v:Value) (vs:List ByteArray) (w:World) (hv:RdL w v ax vs):
  CallsV prog 77 [v] w λ r w'=>(dn vs≠0/\r= .tuple #[.pointer none,.slice none 0 0,.int .i64 ((dn vs:Nat):Int)]/\Sat w [] w')\/(dn vs=0/\∃ g vw vc vo vn,r= .tuple #[.pointer (some ⟨g,0,none⟩),vn,.int .i64 0]/\Sat w [aq g 166 [vw,vc,vo],cL vw 9 ax (a8 vs),cL vc 3 (aa .i64) (ar vs),cL vo 3 (aa .i64) (ordN (a8 vs)),cL vn 3 (aa .i64) (vs.map (bJ (a8 vs)))] w'):=by
 refine cg func77 rfl λ hs0=> .Z rfl<| .seq<| .h<| .ln 1 (hv.ext hs0.ext) rfl<| .Z rfl<| .ae rfl (λ c1=> ?_) λ c1=> ?_
 ·refine .Z rfl<| .ret ?_
  show aL _ _ _ _ _ _
  refine ie rfl rfl rfl rfl ?_
  have hq:dn vs=2:=by
   unfold dn
   rw [PI c1]
  rw [hq]
  exact .inl ⟨by decide,rfl,hs0.pk []⟩
 refine .skip<| .h<| .f rfl (.makeMap hs0 λ mb1 _ s2=> ?_)
 refine .Z rfl<| .seq<| .h<| .ln 1 (hv.ext s2.ext) rfl<| .Z rfl<| .block<| .lq [0,5,19,20] rfl (α:=Nat×cU) (λ (k,m)=>[(21,(.int .i64 k))]) (λ (k,m) w'=>Sat w [pJ mb1 (m)] w'/\(k<=vs.length)/\(∀ t,t∈bp m↔t∈vs.take k)/\(∀ t,gU m t=fQ (vs.take k) t)/\(m.length<=k)/\(eu vs=eu (vs.drop k))) (λ (k,m)=>vs.length-k) (0,[]) ⟨s2,KD _,λ t=>by simp [bp],λ t=>by simp [gU,fQ],KB _,rfl⟩ ?_
 rintro ⟨k,m⟩ w2 ⟨s3,hk,hkeys,hget,hml,hchk⟩
 refine .Z rfl<| .seq<| .ae rfl (λ c2=> ?_) λ c2=> ?_
 ·refine .skip<| .seq<| .block<| .seq ?_
  obtain ⟨x,hx⟩:∃ x,(vs)[k]? =some x:=⟨_,py c2⟩
  refine .region<| .ix 0 (hv.ext s3.ext) rfl<| .le 0 (hv.ext s3.ext) hx rfl<| .Z rfl<| .seq<| .block<| .h<| .a 1 rfl (.bo underlying9 rfl)<| .Z rfl<| .ae rfl (λ c3=> ?_) λ c3=> ?_
  ·refine .Z rfl<| .ret ?_
   show aL _ _ _ _ _ _
   refine ie rfl rfl rfl rfl ?_
   have hq:dn vs=2:=by
    unfold dn
    have h9:eu vs=2:=by rw [hchk,cV hx,eu,PI c3]
    rw [M2 c1,h9]<;>rfl
   rw [hq]
   exact .inl ⟨by decide,rfl,s3.pk []⟩
  refine .h<| .cp 1 s3 (gY x _ (by omega)) rfl λ _ s5=> .e rfl (.cO rfl)<| .Z rfl<| .cond rfl (λ c4=> ?_) (λ c4=> ?_)
  ·refine .Z rfl<| .ret ?_
   show aL _ _ _ _ _ _
   refine ie rfl rfl rfl rfl ?_
   have hq:dn vs=7:=by
    unfold dn
    have h9:eu vs=7:=by rw [hchk,cV hx,eu,M2 (by omega),PI (by simpa using c4)]
    rw [M2 c1,h9]<;>rfl
   rw [hq]
   exact .inl ⟨by decide,rfl,s5.pk []⟩
  refine .skip<| .region<| .a 2 rfl (.lookup (i:=0) underlying186 underlying9 Tryz.zeroValue3 s5 rfl rfl rfl)<| .e rfl (.Kc (b:=1) rfl rfl (by have h1:=hget x;have h2:=GF (vs.take k) x;have h3:=Ty k vs;omega))<| .f rfl (.mapUpdate (i:=0) (c:=((gU (m) x)+1)) underlying186 underlying9 s5 rfl rfl rfl rfl λ _ s7=> ?_)
  have s7:=s7.nn
  refine .nil<| .U rfl ?_
  exact aT (k+1,pK (m) x ((gU (m) x)+1)) ⟨s7,by omega,λ t=>by rw [Dh,hkeys,aR hx,PT,Q0];exact Or.comm,λ t=>by rw [F7,aR hx,kC,hget,hget];by_cases e:t=x<;>simp [e,eq_comm];(first|done|(intro h;exact absurd h.symm e)|skip),Q7 (xF _ _ _) (by omega),by rw [hchk,cV hx,eu,M2 (by omega),M2 (by simpa using c4)]⟩
 refine .ao<| .seq<| .seq ?_
 have hkl:k=vs.length:=by omega
 rw [hkl,PW] at hkeys hget
 rw [hkl,SO] at hchk
 have hmn:=s3.Hw 0 rfl
 have hmlen:m.length=(a8 vs).length:=by rw [<-fV];exact Da hmn hkeys
 have hokw:=Be hchk
 have hws:∀ x∈a8 vs,x.size<=120:=λ x hx=>(vk hchk x (cB.1 hx)).1
 have hwl:=bI vs
 refine .region<| .a 1 rfl (.MU (i:=0) underlying186 s3 rfl rfl)<| .Z rfl<| .ae rfl (λ c5=> ?_) λ c5=> ?_
 ·refine .Z rfl<| .ret ?_
  show aL _ _ _ _ _ _
  refine ie rfl rfl rfl rfl ?_
  have hq:dn vs=2:=by
   unfold dn
   have h9:eu vs=0:=hchk
   rw [M2 c1,M2 (by rw [h9];decide),PI (by omega)]
  rw [hq]
  exact .inl ⟨by decide,rfl,s3.pk []⟩
 refine .skip<| .h<| .e rfl (.build KU rfl trivial rfl)<| .bx 0 s3 rfl λ b1 _ s9 _ _=> .Z rfl<| .seq<| .h<| .b 1 rfl (.rangeMap (i:=0) underlying186 s9 rfl rfl λ it1 _ s10=> ?_)
 have s10:=s10.nn
 refine .nil<| .block ?_
 have s11:=s10.aA 9 (ax)
 have s12:=s11.aZ 2 rfl (show []=bp [] from rfl)
 refine .lq [0,5,8,44] rfl (α:=cU×Value) (λ (done,vw)=>[]) (λ (done,vw) w'=>Sat w [zW mb1 it1 (m) (done),aq b1 166 [vw,(.slice none 0 0),(.slice none 0 0)],cL vw 9 (ax) (bp done)] w') (λ (done,vw)=>m.length-done.length) ([],(.slice none 0 0)) s12 ?_
 rintro ⟨done,vw⟩ w7 s13
 refine .h<| .f rfl (.Kk (i:=0) s13 rfl rfl ?_ ?_)
 ·intro hnx1
  refine .Z rfl<| .seq<| .aj rfl (rfl)<| .ao<| .seq ?_
  have hdp:(bp done).Perm (bp m):=zT hnx1
  have hdl:(bp done).length=(a8 vs).length:=by rw [hdp.length_eq,fV,hmlen]
  have hsw:iJ (bp done)=a8 vs:=pg (hdp.nodup_iff.2 hmn) (λ x=>by rw [hdp.mem_iff];exact hkeys x)
  have s15:Sat w [pJ mb1 (m),aq b1 166 [vw,(.slice none 0 0),(.slice none 0 0)],cL vw 9 (ax) (bp done)] w7:=s13.Kh 0 rfl
  refine .region<| .ld 3 s15 1 rfl<| .c 0 (Eg w _ _ 2 _ _ s15 rfl (by omega)) rfl λ r2 _ h_2=> ?_
  obtain ⟨rfl,h_2S⟩:=h_2
  have h2d:Sat w [pJ mb1 (m),aq b1 166 [vw,(.slice none 0 0),(.slice none 0 0)],cL vw 9 (ax) (iJ (bp done))] _:=h_2S
  refine .nil<| .seq<| .seq ?_
  have s16:=h2d.aZ 2 rfl (show iJ (bp done)=a8 vs from hsw)
  refine .region<| .ld 3 s16 1 rfl<| .ln 0 (s16.ah 2 rfl) rfl<| .Z rfl<| .block ?_
  have s17:=s16.aA 3 (aa .i64)
  have s18:=s17.aZ 3 rfl (show []=((a8 vs).take 0).map (fQ vs) from rfl)
  refine .lq [0,5,8,67,68] rfl (α:=Nat×Value) (λ (k,vc)=>[(69,(.int .i64 k))]) (λ (k,vc) w'=>Sat w (s18.U [(1,aq b1 166 [vw,vc,(.slice none 0 0)]),(3,cL vc 3 (aa .i64) (((a8 vs).take k).map (fQ vs)))]) w'/\(k<=(a8 vs).length)) (λ (k,vc)=>(a8 vs).length-k) (0,(.slice none 0 0)) ⟨s18,KD _⟩ ?_
  rintro ⟨k,vc⟩ w10 ⟨s19,hk⟩
  refine .Z rfl<| .seq<| .ae rfl (λ c6=> ?_) λ c6=> ?_
  ·refine .skip<| .seq<| .block<| .seq ?_
   obtain ⟨x,hx⟩:∃ x,(a8 vs)[k]? =some x:=⟨_,py c6⟩
   refine .region<| .ix 0 (s19.ah 2 rfl) rfl<| .le 0 (s19.ah 2 rfl) hx rfl<| .Z rfl ?_
   have hshp1:=(s19.ah (E:=aa .i64) 3 rfl).iH (by decide)
   refine .iF [0,1,2] [0,2] s19 rfl rfl 12 (pl [0,1,2,3,4,5,6,7,1008,1009] (.loose 10 (pl [11] (.bar 12 .fin)))) mixed (by kernel_rfl) ?_
   have s20:=s19.drew
   have S1:=s20.pk [0,1,2]
   refine .ld 4 S1 1 rfl<| .z 2 S1 rfl<| .e rfl (λ _ q=> .lookup (i:=0) underlying186 underlying9 Tryz.zeroValue3 q rfl rfl rfl) S1<| .f rfl (.bU (aa .i64) (gU (m) x) aQ rfl s20 rfl λ v1 _ s21 _=> ?_)
   have s21:=s21.nn
   have S2:=s21.pk [0,1,2]
   refine ⟨S2,?_⟩
   refine .f rfl (.aw 3 aQ s21 rfl rfl rfl underlying22 (s21.ah 4 rfl) (by simp only [sp,KM,No,KV];omega) (by simp only [sp,KM,No,KV];omega) λ v2 _ s22 _=> ?_)
   have s22:=s22.pk [0,1,2,3]
   have S3:=s22.pk [0,1,2]
   refine ⟨S3,?_⟩
   refine .loose rfl rfl rfl (λ _ q=> .nilCheck rfl) S3<| .z 1 S3 rfl<| .bar rfl rfl rfl (OpE.aK fR s22 (i:=1) rfl rfl rfl ((s22.ah 3 rfl).ab) rfl λ _ s23 _=> ?_)
   have S4:=s23.pk [0,2]
   refine ⟨S4,?_⟩
   refine .fin<| .U rfl ?_
   have s24:=s23.aZ 3 rfl (show ((a8 vs).take k).map (fQ vs)++[(gU (m) x)]=((a8 vs).take (k+1)).map (fQ vs) from by rw [aR hx,Ql];simp [hget])
   exact aT (k+1,v2) ⟨s24,by omega⟩
  refine .ao<| .seq ?_
  have s25:=s19.aZ 3 rfl (show ((a8 vs).take k).map (fQ vs)=ar vs from by rw [show k=(a8 vs).length by omega,PW]<;>rfl)
  refine .region<| .z 1 rfl ?_
  have A1:=s25.tail.oc [1,2,0,3] 2
  refine .c 0 (tq _ _ _ _ _ _ (a8 vs) A1 (hokw) (λ x hx=>Q7 (hws x hx) (by decide)) (by omega) ((s25.ah 3 rfl).ab)) rfl λ r3 _ h_3=> ?_
  obtain ⟨rfl,vo1,p2⟩:=h_3
  have s26:=(Sat.order [3,0,1,4,2] (by decide) p2.join).aI.nn
  refine .nil<| .h<| .ln 1 (hv.ext s26.ext) rfl<| .f rfl (.cP (aa .i64) (0) aQ rfl s26 rfl rfl (by omega) (by omega) (by omega) λ v3 _ s27 _=> ?_)
  refine .Z rfl<| .seq<| .h<| .ln 1 (hv.ext s27.ext) rfl<| .Z rfl<| .block ?_
  have s28:=s27.aZ 5 rfl (show List.replicate (vs.length) 0=((vs.take 0).map (bJ (a8 vs))++List.replicate (vs.length-0) 0) from by simp)
  refine .lq [8,12,91,92] rfl (α:=Nat) (λ k=>[(93,(.int .i64 k))]) (λ k w'=>Sat w (s28.U [(5,cL v3 3 (aa .i64) (((vs.take k).map (bJ (a8 vs))++List.replicate (vs.length-k) 0)))]) w'/\(k<=vs.length)) (λ k=>vs.length-k) 0 ⟨s28,KD _⟩ ?_
  rintro k w16 ⟨s29,hk⟩
  refine .Z rfl<| .seq<| .ae rfl (λ c7=> ?_) λ c7=> ?_
  ·refine .skip<| .seq<| .block<| .seq ?_
   obtain ⟨x,hx⟩:∃ x,(vs)[k]? =some x:=⟨_,py c7⟩
   refine .region<| .ix 1 (hv.ext s29.ext) rfl<| .le 0 (hv.ext s29.ext) hx rfl<| .Z rfl<| .region<| .cq 4 s29 (Cy _ _ _ _ _ _ _ x _ (s29.uD 1 2 3 4 rfl rfl rfl rfl) (hokw.1) (by omega)) rfl λ _ s30=> .ix 3 (s30.ah 5 rfl) rfl (hj:=by simp;omega)<| .f rfl (.cH (a:=(HP (a8 vs) x).1) 5 cQ s30 rfl rfl rfl rfl (by simp;omega) λ _ s31 _=> ?_)
   refine .nil<| .U rfl ?_
   have s32:=s31.aZ 5 rfl (show ((vs.take k).map (bJ (a8 vs))++List.replicate (vs.length-k) 0).set k ((HP (a8 vs) x).1)=((vs.take (k+1)).map (bJ (a8 vs))++List.replicate (vs.length-(k+1)) 0) from Db hx (by rw [II hokw.1 (cB.2 (di hx))]))
   exact aT (k+1) ⟨s32,by omega⟩
  refine .ao<| .Z rfl<| .ret ?_
  show aL _ _ _ _ _ _
  refine ie rfl rfl rfl rfl ?_
  have s33:=s29.aZ 5 rfl (show ((vs.take k).map (bJ (a8 vs))++List.replicate (vs.length-k) 0)=vs.map (bJ (a8 vs)) from by rw [show k=vs.length by omega,PW,Qp];simp)
  have hq:dn vs=0:=by
   unfold dn
   have h9:eu vs=0:=hchk
   rw [M2 c1,M2 (by rw [h9];decide),M2 (by omega)]
  exact .inr ⟨hq,_,_,_,_,_,rfl,s33.pk [1,2,3,4,5]⟩
 intro mk1 mv1 w8 hnx1 s14
 refine .Z rfl<| .seq<| .ea rfl (rfl)<| .skip<| .block<| .seq ?_
 have hrl:=s14.MQ 0 rfl
 refine .region<| .e rfl (.entry (i:=0) (done:=done) (s:=mk1) (c:=mv1) s14 rfl rfl)<| .Z rfl<| .region<| .ld 4 s14 1 rfl<| .b 1 rfl (.bU (ax) mk1 bu rfl s14 rfl λ v_4 _ s35 _=> ?_)
 have s35:=s35.nn
 refine .ap 0 s35 2 (s35.ah 3 rfl) rfl (h1:=by simp only [sp,KM,fV] at*;omega) (h2:=by simp only [sp,KM,fV] at*;omega) λ v5 _ s36 _=> ?_
 have s36:=s36.pk [0,1,2]
 refine .st 2 s36 1 rfl (h1:=(s36.ah 2 rfl).ab) λ _ s37 _=> .nil ?_
 have s38:=s37.aZ 2 rfl (show bp done++[mk1]=bp (done++[(mk1,mv1)]) from (zU _ _ _).symm)
 exact ⟨(done++[(mk1,mv1)],v5),(wk rfl),s38,(show (m.length-(done++[(mk1,mv1)]).length)<(m.length-done.length) from by rw [sp,KM] at hrl⊢;omega)⟩
theorem zy {W:List ByteArray} {k:Nat} {x:ByteArray} (h:W[k]? =some x):j8 W (k:Int)=(x,true):=by
 have:=(AT.1 h).1
 unfold j8;rw [PI (by omega),Rq,cF h]
theorem wZ {v:Value} {vs:List ByteArray} {w:World} (hv:RdL w v ax vs) (h:dn vs=0):CallsV prog 77 [v] w λ r w'=>∃ g vw vc vo vn,r= .tuple #[.pointer (some ⟨g,0,none⟩),vn,.int .i64 0]/\Sat w [aq g 166 [vw,vc,vo],cL vw 9 ax (a8 vs),cL vc 3 (aa .i64) (ar vs),cL vo 3 (aa .i64) (ordN (a8 vs)),cL vn 3 (aa .i64) (vs.map (bJ (a8 vs)))] w':=
 (Cz v vs w hv).mono λ r w' hq=>by rcases hq with ⟨h0,_⟩|⟨_,h1⟩;exact absurd h h0;exact h1
theorem Ei {vs:List ByteArray} (h:dn vs=0):vs.length<=4096:=by
 unfold dn at h
 split at h
 ·cases h
 omega
theorem lI {l:List ByteArray} {i c:Nat} (h:(ar l)[i]? =some c):1<=c:=by
 unfold ar at h
 rw [PX] at h
 obtain ⟨y,hy,rfl⟩:=QI.1 h
 exact JC (cB.1 (PO hy))
theorem Ie {l:List Nat} {i c:Nat} (h:l[i]? =some c):(l.set i (c+1)).sum=l.sum+1:=by
 induction l generalizing i with
 |nil=>simp at h
 |cons x r ih=>
  cases i with
  |zero=>simp at h;subst h;simp;omega
  |succ i=>simp at h;simp [ih h];omega
theorem zz (vs:List ByteArray):(ar vs).sum=vs.length:=by
 induction vs using rV with
 |h0=>rfl
 |h1 vs v ih=>
  rcases SN ((a8 vs)[bJ (a8 vs) v]? =some v) with h|h
  ·obtain ⟨c,h1,h2⟩:=nR h
   rw [h2,Ie h1,ih];simp
  rw [gN h,sum_append,TO,sp,<-ih]
  have:=If List.sum (Qc (bJ (a8 vs) v) (ar vs))
  rw [sum_append] at this
  simp;omega
theorem xb (l:List Nat) (k:Nat):(l.take k).sum<=l.sum:=by
 have:=If List.sum (Qc k l)
 rw [sum_append] at this;omega
theorem da {l:List Nat} {k c:Nat} (h:l[k]? =some c):(l.take (k+1)).sum=(l.take k).sum+c:=by
 rw [aR h,sum_append];simp
theorem AS {vs:List ByteArray} (h:dn vs=0):eu vs=0:=by
 unfold dn at h
 split at h
 ·cases h
 split at h
 ·rename_i h1 h2;exact absurd h h2
 rename_i h1 h2;exact Qf.1 h2
def eJ:List UInt8->List UInt8->Nat
 |x::a,y::b=>if x=y then eJ a b+1 else 0
 |_,_=>0
def bg (a b:ByteArray):Nat:=eJ a.data.toList b.data.toList
theorem AU:∀ (a b:List UInt8),eJ a b<=b.length
 |x::a,y::b=>by
  have:=AU a b
  unfold eJ
  split
  ·simp;omega
  omega
 |[],_=>by simp [eJ]
 |_::_,[]=>by simp [eJ]
theorem uQ (a b:ByteArray):bg a b<=b.size:=by have:=AU a.data.toList b.data.toList;rw [sJ] at this;exact this
theorem Ej {a b:List UInt8} {k c:Nat} {x y:UInt8} (hx:a[k]? =some x) (hy:b[k]? =some y) (h:c=k+eJ (a.drop k) (b.drop k)) (e:x.toNat=y.toNat):c=k+1+eJ (a.drop (k+1)) (b.drop (k+1)):=by
 have e2:x=y:=SI.1 e
 rw [cV hx,cV hy,eJ,PI e2] at h
 omega
theorem Ek {a b:List UInt8} {k c:Nat} {x y:UInt8} (hx:a[k]? =some x) (hy:b[k]? =some y) (h:c=k+eJ (a.drop k) (b.drop k)) (e:¬ x.toNat=y.toNat):c=k:=by
 rw [cV hx,cV hy,eJ,M2 λ e2=>e (by rw [e2])] at h
 exact h
theorem xd {a b:List UInt8} {k c:Nat} (hk:a.length<=k) (h:c=k+eJ (a.drop k) (b.drop k)):c=k:=by
 rw [QB hk] at h;simpa [eJ] using h
theorem xe {a b:List UInt8} {k c:Nat} (hk:b.length<=k) (h:c=k+eJ (a.drop k) (b.drop k)):c=k:=by
 rw [QB hk] at h
 cases hd:a.drop k with
 |nil=>rw [hd] at h;simpa [eJ] using h
 |cons x r=>rw [hd] at h;simpa [eJ] using h
def dY (W:List ByteArray) (k:Nat):ByteArray:=if k=0 then ByteArray.mk #[] else W.getD (k-1) ByteArray.empty
def uR (p x:ByteArray) (c:Nat):List Nat:=uv (bg p x)++uv (x.size-bg p x)++bF (x.extract (bg p x) x.size)++uv (c-1)
def cS (W:List ByteArray) (C:List Nat):Nat->List Nat
 |0=>uv W.length
 |k+1=>cS W C k++uR (dY W k) (W.getD k ByteArray.empty) (C.getD k 0)
theorem pd (p x:ByteArray) (c:Nat):(uR p x c).length<=x.size+30:=by
 have h1:=aD (bg p x);have h2:=aD (x.size-bg p x);have h3:=aD (c-1)
 unfold uR
 simp only [sp,ay,PQ]
 omega
theorem fS (W:List ByteArray) (C:List Nat):∀ k,∀ x∈cS W C k,x<256
 |0,x,h=>dd _ x h
 |k+1,x,h=>by
  simp only [cS,uR,PT] at h
  rcases h with h|(((h|h)|h)|h)
  ·exact fS W C k x h
  ·exact dd _ x h
  ·exact dd _ x h
  ·exact kP _ x h
  exact dd _ x h
theorem dG {W:List ByteArray} (C:List Nat) (h:∀ x∈W,x.size<=120):∀ k,k<=W.length->(cS W C k).length<=10+k*150
 |0,_=>by have:=aD W.length;simp only [cS];omega
 |k+1,hk=>by
  have ih:=dG C h k (by omega)
  have hx:W[k]? =some W[k]:=py (by omega)
  have h1:=h _ (PO hx)
  have h2:=pd (dY W k) (W.getD k ByteArray.empty) (C.getD k 0)
  rw [cF hx] at h2
  simp only [cS,sp,cF hx]
  omega
theorem oa {W:List ByteArray} {C:List Nat} {k c:Nat} {p x:ByteArray} (hx:W[k]? =some x) (hc:C[k]? =some c) (hp:p=dY W k):cS W C k++uv (bg p x)++uv (x.size-bg p x)++bF (x.extract (bg p x) x.size)++uv (c-1)=cS W C (k+1):=by
 simp only [cS,uR,cF hx,cF hc,<-hp,LW]
theorem CA (a b:ByteArray) (w:World) (ha:a.size<=1000000):
  CallsV prog 125 [(.string a),(.string b)] w λ r w'=>r= .int .i64 ((bg a b:Nat):Int)/\Sat w [] w':=by
 refine cg func125 rfl λ hs0=> .Z rfl<| .Z rfl<| .seq<| .block<| .lq [0,1] rfl (α:=Nat) (λ k=>[(5,(.int .i64 k))]) (λ k w'=>Sat w [] w'/\(k<=a.size)/\(bg a b=k+eJ (a.data.toList.drop k) (b.data.toList.drop k))) (λ k=>a.size-k) 0 ⟨hs0,KD _,by rw [Ra,Ra,Qa]<;>rfl⟩ ?_
 rintro k w1 ⟨s1,hk,hcom⟩
 refine .seq<| .seq ?_
 rcases (show ¬ k<a.size\/(k<a.size/\¬ k<b.size)\/(k<a.size/\k<b.size) by omega) with hcw|hcw|hcw
 ·refine .dk [] s1 rfl (pl [0,1,2,3,4,5,6,7,8,9,10,11,12,13,14,15,16,17,18] .fin) λ s2 S1=> .z 2 S1 rfl<| .e rfl (λ _ s=> .bo underlying9 rfl) S1<| .z 2 S1 rfl<| .Gf 10 rfl (IN hcw)<| .Z S1 rfl<| .aj rfl (rfl)<| .ao<| .Z rfl<| .aC rfl rfl ?_
  have hq:bg a b=k:=xd (by rw [sJ];omega) hcom
  rw [hq]
  exact ⟨rfl,s2⟩
 ·refine .dk [] s1 rfl (pl [0,1,2,3,4,5,6,7,8,9,10,11,12,13,14,15,16,17,18] .fin) λ s3 S2=> .z 2 S2 rfl<| .e rfl (λ _ s=> .bo underlying9 rfl) S2<| .z 2 S2 rfl<| .Gt 10 rfl (PM hcw.1)<| .a 2 S2 rfl (λ _ s=> .bo underlying9 rfl)<| .z 3 S2 rfl<| .Gf 16 rfl (IN hcw.2)<| .Z S2 rfl<| .aj rfl (rfl)<| .ao<| .Z rfl<| .aC rfl rfl ?_
  have hq:bg a b=k:=xe (by rw [sJ];omega) hcom
  rw [hq]
  exact ⟨rfl,s3⟩
 obtain ⟨x,hx⟩:∃ x,a.data.toList[k]? =some x:=⟨_,py (by rw [sJ];omega)⟩
 obtain ⟨y,hy⟩:∃ y,b.data.toList[k]? =some y:=⟨_,py (by rw [sJ];omega)⟩
 refine .dk [] s1 rfl (pl [0,1,2,3,4,5,6,7,8,9,10,11,12,13,14,15,16,17,18] .fin) λ s4 S3=> .z 2 S3 rfl<| .e rfl (λ _ s=> .bo underlying9 rfl) S3<| .z 2 S3 rfl<| .Gt 10 rfl (PM hcw.1)<| .a 2 S3 rfl (λ _ s=> .bo underlying9 rfl)<| .z 3 S3 rfl<| .Gt 16 rfl (PM hcw.2)<| .a 2 S3 rfl (λ _ s=> .eW underlying9 rfl rfl hx)<| .a 2 S3 rfl (λ _ s=> .eW underlying9 rfl rfl hy)<| .Z S3 rfl<| .ae rfl (λ c1=> ?_) λ c1=> ?_
 ·refine .skip<| .block<| .U rfl ?_
  exact aT (k+1) ⟨s4,by omega,Ej hx hy hcom c1⟩
 refine .ao<| .Z rfl<| .aC rfl rfl ?_
 have hq:bg a b=k:=Ek hx hy hcom c1
 rw [hq]
 exact ⟨rfl,s4⟩
theorem tt (g:Nat) (vw vc vo:Value) (W:List ByteArray) (C O:List Nat) (w:World) (h:LexAt w g vw vc vo W C O) (hCl:C.length=W.length) (hsz:∀ x∈W,x.size<=120) (hC:∀ c∈C,1<=c/\c<=1000000) (hn:W.length<=10000):
  CallsV prog 78 [(.pointer (some ⟨g,0,none⟩))] w λ r w'=>Sat w [cL r 5 (aa .u8) (aM (cS W C W.length))] w':=by
 refine cg func78 rfl λ hs0=> .Z rfl<| .h<| .a 3 rfl (.load fj rfl (hs0.ext _ _ h.c0))<| .ln 0 (h.hW.ext hs0.ext) rfl<| .c 1 (dj (Value.slice none 0 0) ([]) (W.length) _ (RdL.nil _ _) (KD _) (by omega)) rfl λ r1 _ h1=> ?_
 have s1:=hs0.az h1
 refine .Z rfl<| .Z rfl<| .seq<| .seq ?_
 have s2:=s1.aZ 0 rfl (show uv (W.length)=cS W C 0 from rfl)
 refine .region<| .a 3 rfl (.load fj rfl (s2.ext _ _ h.c0))<| .ln 0 (h.hW.ext s2.ext) rfl<| .Z rfl<| .block<| .lq [0,18,19] rfl (α:=Nat×ByteArray×Value) (λ (k,p,v)=>[(3,v),(4,(.string p)),(20,(.int .i64 k))]) (λ (k,p,v) w'=>Sat w [cL v 5 (aa .u8) (cS W C k)] w'/\(k<=W.length)/\(p=dY W k)/\(p.size<=120)) (λ (k,p,v)=>W.length-k) (0,(ByteArray.mk #[]),r1) ⟨s2,KD _,rfl,KD _⟩ ?_
 rintro ⟨k,p,v⟩ w2 ⟨s3,hk,hp,hpl⟩
 refine .Z rfl<| .seq<| .ae rfl (λ c_1=> ?_) λ c_1=> ?_
 ·refine .skip<| .seq<| .block<| .seq ?_
  obtain ⟨x,hx⟩:∃ x,(W)[k]? =some x:=⟨_,py c_1⟩
  obtain ⟨c,hcc⟩:∃ c,C[k]? =some c:=⟨_,py (by omega)⟩
  have hxs:=hsz x (PO hx)
  have hcb:=hC c (PO hcc)
  have hcm:=uQ p x
  have hel:=dG C hsz k (by omega)
  have hu1:=aD (bg p x)
  have hu2:=aD (x.size-bg p x)
  have hu3:=aD (c-1)
  refine .region<| .ix 1 (h.hW.ext s3.ext) rfl<| .le 0 (h.hW.ext s3.ext) hx rfl<| .Z rfl<| .h<| .cq 2 s3 (CA p x _ (by omega)) rfl λ _ s4=> .Z rfl<| .h<| .c 3 (dj v (cS W C k) ((bg p x)) _ (s4.ah 0 rfl) (by (try simp only [sp,ay,PQ]);omega) (by omega)) rfl λ r3 _ h3=> ?_
  have s5:=s4.az h3
  refine .Z rfl<| .h<| .a 2 rfl (.bo underlying9 rfl)<| .c 3 (dj r3 (cS W C k++uv ((bg p x))) ((x.size-(bg p x))) _ (s5.ah 1 rfl) (by (try simp only [sp,ay,PQ]);omega) (by omega)) rfl λ r4 _ h4=> ?_
  have s6:=s5.az h4
  refine .Z rfl<| .h<| .a 3 rfl (.fI (l:=(bg p x)) (h:=x.size) underlying9 rfl ⟨_,rfl⟩ rfl (by omega) (by omega))<| .f rfl (.gu 2 ch s6 rfl rfl rfl (oq underlying9 _) (by simp only [sp,ay,PQ];omega) (by simp only [sp,ay,PQ];omega) λ v1 _ s7 _=> ?_)
  refine .Z rfl<| .h<| .a 4 rfl (.load oT rfl (s7.ext _ _ h.c1))<| .ix 1 (h.hC.ext s7.ext) rfl<| .le 0 (h.hC.ext s7.ext) hcc rfl<| .c 2 (dj v1 (cS W C k++uv ((bg p x))++uv ((x.size-(bg p x)))++bF (x.extract (bg p x) x.size)) ((c-1)) _ (s7.ah 2 rfl) (by (try simp only [sp,ay,PQ]);omega) (by omega)) rfl λ r5 _ h5=> ?_
  have s8:=(s7.az h5).nn
  refine .Z rfl<| .trim [0,3,4,5,6,7,18,19,20] rfl<| .U rfl<| .U rfl ?_
  have s9:=s8.aZ 3 rfl (show cS W C k++uv ((bg p x))++uv ((x.size-(bg p x)))++bF (x.extract (bg p x) x.size)++uv ((c-1))=cS W C (k+1) from oa hx hcc hp)
  exact aT (k+1,x,r5) ⟨s9.pk [3],by omega,by unfold dY;rw [M2 (by omega),Qy,cF hx],hxs⟩
 refine .ao<| .seq ?_
 have s11:=s3.aZ 0 rfl (show cS W C k=cS W C W.length from by rw [show k=W.length by omega])
 have hel:=dG C hsz W.length (KB _)
 refine .region<| .c 1 (pS _ (cS W C W.length) _ (s11.ah 0 rfl) (fS W C _) (by omega)) rfl λ r6 _ h6=> ?_
 have s12:=(s11.az h6).nn
 refine .Z rfl<| .aC rfl rfl ?_
 exact s12.pk [1]
end Go.Proofs.YthffkcnbdehceaaGreat
