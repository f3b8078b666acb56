/-The walks of the functions of F13,printed by our own program (kwgen.py) out of our descriptions (base.py). -/
import Derived.Test.YthffkcnbdehceaaGreatKd
import Derived.Test.YthffkcnbdehceaaGreatF01
import Derived.Test.YthffkcnbdehceaaGreatF15
set_option linter.all false
set_option maxRecDepth 100000
open List
open Go.Proofs.Tryz
namespace Go.Proofs.YthffkcnbdehceaaGreat
open Go.RowKit Go.Kw
def xW(w0 w:World)(cs:List Chunk)(i:Nat)(v:Value)(l:List ByteArray)(hs:Sat w0 cs w)(hi:cs[i]? =some (cL v 9 au l))(hn:l.length<4611686018427387904):
  CallsV prog 56 [v] w λ r w'=>r= .tuple #[]/\Sat w0 (cs.set i (cL v 9 au (gV l))) w':=by
 have hi':cs[i]? =some (pV v 9 1 l.length ((l.map λ s=>s.data.toList).map Go.Proofs.encStr)):=by rw[<-yx];exact hi
 rcases hs.Du hi' with⟨h0,rfl⟩|⟨g,cap,rfl⟩
 ·have hl:l=[]:=RM h0;subst hl;refine Tr (Go.Proofs.Any.slices_Sort_string_none Tryz.lays190 none 0 w) ?_;rintro e w' ⟨rfl,rfl⟩;have e1:cs.set i (cL (.slice none 0 0) 9 au (gV []))=cs:=by
   obtain⟨hil,hci⟩:=IN.1 hi;have:gV []=[]:=by simp[gV]
   rw[this,<-hci];exact Uh hil
  exact⟨_,Y,Y,by rw[e1];exact hs⟩
 have hlen:(l.map λ s=>s.data.toList).length=l.length:=Rq ..;obtain⟨hH,hg⟩:=hs.Jj hlen hi';have hc:=Tryz.slices_Sort_string g 0 cap (l.map λ s=>s.data.toList) w hH hg (by rw[hlen];exact hn);rw[hlen]at hc;refine Tr hc ?_;rintro e w' ⟨rfl,n,os,rfl⟩;have h2:=hs.J6 hlen hi' ((l.map λ s=>s.data.toList).mergeSort λ x y=>decide (x<=y)) (by simp) n os;have e2:pV (.slice (some ⟨g,0,none⟩) l.length cap) 9 1 l.length (((l.map λ s=>s.data.toList).mergeSort λ x y=>decide (x<=y)).map Go.Proofs.encStr)=cL (.slice (some ⟨g,0,none⟩) l.length cap) 9 au (gV l):=by
  unfold cL;rw[yx,nC];have:(gV l).map (λ s=>s.data.toList)=(l.map λ s=>s.data.toList).mergeSort λ x y=>decide (x<=y):=by
   unfold gV;rw[U4];exact map_id' _
  rw[this]<;>rfl
 rw[e2]at h2;exact⟨_,Y,Y,h2⟩
def FL(w0 w:World)(cs:List Chunk)(i m:Nat)(v:Value)(l:List Nat)(g:FuncId)(cap:Array Value)(R:Nat->Nat->Prop)[DecidableRel R](hs:Sat w0 cs w)(hi:cs[i]? =some (cL v 3 (a8 .i64) l))(hn:l.length<4611686018427387904)
  (hm:∀ x∈l,x<m) (hent:Enters prog g) (cf:Nat->Nat->Int) (hcf:∀ x y,cf x y<0↔R x y) (irr:∀ a,¬ R a a) (tr:∀ {a b c},R a b->R b c->R a c) (ntr:∀ {a b c},¬ R a b->¬ R b c->¬ R a c)
  (hcmp:∀ x y l' W,x<m->y<m->l'.length=l.length->Sat w0 (cs.set i (cL v 3 (a8 .i64) l')) W->CallsV prog g ([.int .i64 (x:Int),.int .i64 (y:Int)]++cap.toList) W λ r W'=>r= .int .i64 (cf x y)/\Sat W [] W'/\W.drawn<=W'.drawn):
  CallsV prog 184 [v,.func (.func g) #[] cap] w λ r w'=>r= .tuple #[]/\∃ l',l'.Perm l/\l'.Pairwise (λ a b=>¬ R b a)/\Sat w0 (cs.set i (cL v 3 (a8 .i64) l')) w':=by
 have hi':cs[i]? =some (pV v 3 1 l.length (l.map λ(x:Nat)=>Value.int .i64 (x:Int))):=by rw[<-yy];exact hi
 obtain⟨hil,hci⟩:=IN.1 hi;rcases hs.Du hi' with⟨h0,rfl⟩|⟨b,c,rfl⟩
 ·have hl:l=[]:=RM h0;subst hl;refine Tr (Tryz.slices_SortFunc_none (α:=Nat) none 0 _ w) ?_;rintro e w' ⟨rfl,rfl⟩;exact⟨_,Y,Y,[],List.Perm.refl _,List.Pairwise.nil,by rw[<-hci,Uh hil];exact hs⟩
 by_cases h0:l=[]
 ·subst h0;refine Tr (Tryz.slices_SortFunc_none (α:=Nat) _ c _ w) ?_;rintro e w' ⟨rfl,rfl⟩;exact⟨_,Y,Y,[],List.Perm.refl _,List.Pairwise.nil,by rw[<-hci,Uh hil];exact hs⟩
 have hm0:0<m:=by
  cases l with
  |nil=>exact absurd Y h0
  |cons x r=>have:=hm x (SI ..);omega
 haveI:Inhabited (Fin m):=⟨⟨0,hm0⟩⟩
 obtain⟨ds,hds⟩:∃ ds:List (Fin m),ds.map Fin.val=l:=⟨l.pmap (λ x hx=>(⟨x,hx⟩:Fin m)) hm,by rw[map_pmap];simp⟩;have hlen:ds.length=l.length:=by rw[<-hds,Rq]
 have henc:l.map (λ(x:Nat)=>Value.int .i64 (x:Int))=ds.map (λ x:Fin m=>Value.int .i64 ((x.val:Nat):Int)):=by rw[<-hds,U4]<;>rfl
 rw[henc]at hi';obtain⟨hH,hg⟩:=hs.Jj hlen hi';have eL:∀ ts:List (Fin m),ts.length=l.length->pV (.slice (some ⟨b,0,none⟩) l.length c) 3 1 l.length (ts.map (λ x:Fin m=>Value.int .i64 ((x.val:Nat):Int)))=cL (.slice (some ⟨b,0,none⟩) l.length c) 3 (a8 .i64) (ts.map Fin.val):=λ ts ht=>by
  unfold cL;rw[yy,Rq,U4,ht]<;>rfl
 have hcm:Go.Proofs.CmpLays1 prog g cap (λ x:Fin m=>Value.int .i64 ((x.val:Nat):Int)) (λ x y=>cf x.val y.val) b 0 ds.toArray.size w:=by
  intro k os dk hk x y;have hdk:dk.toList.length=l.length:=by rw[T4,hk];simpa using hlen
  have h2:=hs.J6 hlen hi' dk.toList hdk k os;rw[eL _ hdk]at h2;have hc:=hcmp x.val y.val (dk.toList.map Fin.val) _ x.isLt y.isLt (by rw[Rq,hdk]) h2;rw[show dk.toList.toArray=dk by simp]at hc;have e3:([Value.int .i64 ((x.val:Nat):Int),Value.int .i64 ((y.val:Nat):Int)]++cap.toList).toArray= #[Value.int .i64 ((x.val:Nat):Int),Value.int .i64 ((y.val:Nat):Int)]++cap:=by simp
  unfold CallsV at hc;rw[e3]at hc;refine Tr hc ?_;rintro e w' ⟨r,rfl,rfl,hS,hd⟩;exact⟨Y,Go.Kw.Below.grown_of hS.old hd⟩
 have hO:Go.Sort.SWO (Go.Proofs.ltOf λ x y:Fin m=>cf x.val y.val):=by
  refine⟨λ x=>AT λ h=>irr _ ((hcf _ _).1 h),λ x y z h1 h2=>Rr ((hcf _ _).2 (tr ((hcf _ _).1 (Sw h1)) ((hcf _ _).1 (Sw h2)))),λ x y z h1 h2=>AT λ h=>?_⟩;exact ntr (λ h'=>Tx h1 ((hcf _ _).2 h')) (λ h'=>Tx h2 ((hcf _ _).2 h')) ((hcf _ _).1 h)
 have hc:=Tryz.slices_SortFunc (λ x:Fin m=>Value.int .i64 ((x.val:Nat):Int)) (λ _=>Y) (λ x y:Fin m=>cf x.val y.val) hO g cap b 0 c ds.toArray w hent hcm hH hg (by simpa[hlen]using hn);have hsz:ds.toArray.size=l.length:=by simpa using hlen
 rw[hsz]at hc;refine Tr hc ?_;rintro e w' ⟨rfl,d',n,os,hP,hS,rfl⟩;have hd':d'.toList.length=l.length:=by rw[T4,hP.1,hsz]
 have h2:=hs.J6 hlen hi' d'.toList hd' n os;rw[eL _ hd',show d'.toList.toArray=d' by simp]at h2;refine⟨_,Y,Y,d'.toList.map Fin.val,?_,?_,h2⟩
 ·rw[<-hds];refine List.Perm.map _ ?_;have h3:=hP.2.2;rw[show d'.extract 0 l.length=d' by rw[show l.length=d'.size by rw[hP.1,hsz]];simp,show ds.toArray.extract 0 l.length=ds.toArray by rw[show l.length=ds.toArray.size by rw[hsz]];simp]at h3;exact h3
 rw[Vf,SQ];intro p q hp hq hpq hR;have h4:=hS p q (KB _) hpq (by rw[<-hd'];exact hq);have e5:∀ k (hk:k<d'.toList.length),d'[k]! =d'.toList[k]:=λ k hk=>by
  rw[getElem!_pos d' k (by simpa using hk)]<;>rfl
 rw[e5 p hp,e5 q hq]at h4;exact Tx h4 ((hcf _ _).2 hR)
def AG(a b:ByteArray)(w:World):CallsV prog 186 [.string a,.string b] w λ r w'=>r= .int .i64 (Lib.compareBytes a.data.toList b.data.toList)/\w'=w:=by
 refine Tr (Tryz.strings_Compare a b w) ?_;rintro e w' ⟨rfl,rfl⟩;exact⟨_,Y,Y,Y⟩
def DP(f:FuncId)(cap:Array Value)(n:Nat)(p:Nat->Bool)(w:World)(ent:Enters prog f)(hn:n<4611686018427387904)
  (hf:∀ i w',i<n->Sat w [] w'->CallsV prog f ([.int .i64 (i:Int)]++cap.toList) w' λ r w''=>r= .bool (p i)/\Sat w' [] w'') (hmono:∀ a b,a<=b->b<n->p a=true->p b=true):
  CallsV prog 108 [(.int .i64 n),(.func (.func f) #[] cap)] w λ r w'=>∃ k,r= .int .i64 ((k:Nat):Int)/\k<=n/\(∀ i,i<k->p i=false)/\(∀ i,k<=i->i<n->p i=true)/\Sat w [] w':=by
 refine bY func108 Y λ hs0=>.Z Y<|.Z Y<|.seq<|.block<|.lq [1] Y (α:=Nat×Nat) (λ(i,j)=>[(5,(.int .i64 i)),(6,(.int .i64 j))]) (λ(i,j) w'=>Sat w [] w'/\(i<=j)/\(j<=n)/\(∀ q,q<i->p q=false)/\(∀ q,j<=q->q<n->p q=true)) (λ(i,j)=>j-i) (0,n) ⟨hs0,KB _,KD _,λ q hq=>absurd hq (VD q),λ q hq hn=>absurd hn (by omega)⟩ ?_;rintro⟨i,j⟩ w1 ⟨s1,hij,hjn,h1,h2⟩;refine .seq<|.Z Y<|.ae Y (λ c1=>?_) λ c1=>?_
 ·refine .skip<|.block<|.Z Y<|.h<|.b 2 Y (.Ah ent Y Y ((hf (((i+j)/2^1)) _ (by omega) s1).mono λ r1 _ h_1=>?_));obtain⟨rfl,p1⟩:=h_1;have s2:=s1.ax p1;refine .e Y (.cJ Y)<|.nil<|.cond Y (λ c2=>?_) (λ c2=>?_)
  ·refine .U Y ?_;exact aR ((((i+j)/2^1)+1),j) ⟨s2,by omega,by omega,λ q hq=>by
   rcases UQ (p q)with hp|hp
   ·have:=hmono q _ (show q<=(i+j)/2^1 by omega) (by omega) hp;rw[this]at c2;simp at c2
   ·exact hp,h2⟩
  refine .U Y ?_;exact aR (i,((i+j)/2^1)) ⟨s2,by omega,by omega,h1,λ q hq hqn=>hmono _ q hq hqn (by simpa using c2)⟩
 refine .ar<|.Z Y<|.aB Y Y ?_;have hij2:i=j:=by omega
 subst hij2;exact⟨i,Y,by omega,h1,h2,s1⟩
def AH(B1 B2:Nat)(g:Nat)(vw vc vo:Value)(W:List ByteArray)(C O:List Nat)(s:ByteArray)(i:Nat)(w:World)(h1:w.cell? ⟨B1,0,none⟩=some (.pointer (some ⟨g,0,none⟩)))(h2:w.cell? ⟨B2,0,none⟩=some (.string s))(h:LexAt w g vw vc vo W C O)(hi:i<W.length):
  CallsV prog 109 [(.int .i64 i),(.pointer (some ⟨B1,0,none⟩)),(.pointer (some ⟨B2,0,none⟩))] w λ r w'=>r= .bool (decide (¬ SLt (W.getD i ByteArray.empty) s))/\Sat w [] w':=by
 refine bY func109 Y λ hs0=>.Z Y<|.seq ?_;obtain⟨x,hx⟩:∃ x,W[i]? =some x:=⟨_,py (by omega)⟩;refine .dk [] hs0 Y (pl [0,1,2,3,4,5,6,7,8,9] .fin) λ s1 S1=>.e Y (λ _ q=>.load Lz Y (q.ext _ _ h1)) S1<|.z 2 S1 Y<|.e Y (λ _ q=>.load fD Y (q.ext _ _ h.c0)) S1<|.ix 1 S1 (h.hW.ext ·.ext) Y<|.le 0 S1 (h.hW.ext ·.ext) hx Y<|.e Y (λ _ q=>.load PB Y (q.ext _ _ h2)) S1<|.e Y (λ _ q=>.pN Y Y) S1<|.Z S1 Y<|.aB Y Y ?_;rw[cH hx];exact⟨Y,s1⟩
def wA(g:Nat)(vw vc vo:Value)(W:List ByteArray)(C O:List Nat)(w:World)(h:LexAt w g vw vc vo W C O):
  CallsV prog 54 [(.pointer (some ⟨g,0,none⟩))] w λ r w'=>r= .int .i64 ((W.length:Nat):Int)/\Sat w [] w':=by
 refine bY func54 Y λ hs0=>.Z Y<|.h<|.a 3 Y (.load fD Y (hs0.ext _ _ h.c0))<|.ln 0 (h.hW.ext hs0.ext) Y<|.Z Y<|.aB Y Y ?_;exact⟨Y,hs0⟩
def BY(g:Nat)(vw vc vo:Value)(W:List ByteArray)(C O:List Nat)(n:Int)(w:World)(h:LexAt w g vw vc vo W C O):
  CallsV prog 55 [(.pointer (some ⟨g,0,none⟩)),(.int .i64 (n))] w λ r w'=>r= .tuple #[.string (jG W n).1,.bool (jG W n).2]/\Sat w [] w':=by
 refine bY func55 Y λ hs0=>.Z Y<|.seq<|.seq<|.bE 16 (((n:Int)<(0:Int))\/(((W.length:Nat):Int)<=(n:Int))) ?_ ?_
 ·refine .a 1 Y (.lss Y Y)<|.z 1 Y<|.B 8 Y (λ g1=>?_) λ g1=>?_
  ·refine .M Y (by simp[g1])
  refine .a 4 Y (.load fD Y (hs0.ext _ _ h.c0))<|.ln 0 (h.hW.ext hs0.ext) Y<|.a 0 Y (.geq Y Y)<|.M Y (by simp[g1])
 refine .ae Y (λ c1=>?_) λ c1=>?_
 ·refine .Z Y<|.bP Y Y Y ?_;have hq:jG W n=(ByteArray.empty,false):=by unfold jG;rw[M2 (by omega)]
  rw[hq];exact⟨Y,hs0⟩
 refine .skip<|.seq ?_;obtain⟨m,rfl⟩:∃ m:Nat,n=m:=⟨n.toNat,by omega⟩;obtain⟨x,hx⟩:∃ x,W[m]? =some x:=⟨_,py (by omega)⟩;refine .region<|.a 3 Y (.load fD Y (hs0.ext _ _ h.c0))<|.ix 1 (h.hW.ext hs0.ext) Y<|.le 0 (h.hW.ext hs0.ext) hx Y<|.Z Y<|.bP Y Y Y ?_;have hq:jG W (m:Int)=(x,true):=by unfold jG;rw[No (by omega),TB,cH hx]
 rw[hq];exact⟨Y,hs0⟩
def uq(g:Nat)(vw vc vo:Value)(W:List ByteArray)(C O:List Nat)(s:ByteArray)(w:World)(h:LexAt w g vw vc vo W C O)(hasc:Asc W)(hn:W.length<4611686018427387904):
  CallsV prog 57 [(.pointer (some ⟨g,0,none⟩)),(.string s)] w λ r w'=>r= .tuple #[.int .i64 (((tN W s).1:Nat):Int),.bool (tN W s).2]/\Sat w [] w':=by
 refine bY func57 Y λ hs0=>.h<|.bx 0 hs0 Y λ b1 _ s1 _ _=>.bx 0 s1 Y λ b2 _ s2 _ _=>.Z Y<|.h<|.ld 0 s2 0 Y<|.a 2 Y (.load fD Y (s2.ext _ _ h.c0))<|.ln 0 (h.hW.ext s2.ext) Y<|.e Y (.vX Y Y)<|.c 0 (DP 109 #[(.pointer (some ⟨b1,0,none⟩)),(.pointer (some ⟨b2,0,none⟩))] (W.length) (λ i=>decide (¬ SLt (W.getD i ByteArray.empty) s)) _ Oi (by omega) (λ i w3 hi hq=>AH _ _ g vw vc vo W C O s i w3 (hq.ext _ _ (s2.cell (i:=0) (j:=0) Y Y)) (hq.ext _ _ (s2.cell (i:=1) (j:=0) Y Y)) ((h.ext s2.ext).ext hq.ext) hi) (λ a b hab hb hp=>GD hasc s hab hb hp)) Y λ r1 _ h1=>?_;obtain⟨sk1,rfl,hk11,hk12,hk13,p1⟩:=h1;have s3:=(s2.ax p1).nn;obtain rfl:sk1=di W s:=Ey hk11 hk12 hk13;refine .Z Y<|.seq<|.seq ?_;rcases RG (di W s) W.length with hlt|hge
 ·obtain⟨x,hx⟩:∃ x,W[di W s]? =some x:=⟨_,py hlt⟩;refine .dk [0,1] s3 Y (pl [0,1,2,3,4,5,6,7,8,9,10,11,12,13,14,15,16,17] .fin) λ s4 S1=>.ld 1 S1 0 Y<|.z 2 S1 Y<|.e Y (λ _ q=>.load fD Y (q.ext _ _ h.c0)) S1<|.ln 0 S1 (h.hW.ext ·.ext) Y<|.z 2 S1 Y<|.Gf 21 Y (AT (by omega))<|.ld 0 S1 0 Y<|.a 2 S1 Y (λ _ q=>.load fD Y (q.ext _ _ h.c0))<|.ix 1 S1 (h.hW.ext ·.ext) Y<|.le 0 S1 (h.hW.ext ·.ext) hx Y<|.ld 0 S1 1 Y<|.a 0 S1 Y (λ _ q=>.dG Y Y)<|.Z S1 Y<|.ae Y (λ c1=>?_) λ c1=>?_
  ·refine .Z Y<|.bP Y Y Y ?_;rw[Cj hx,M2 (by simpa using c1)];exact⟨Y,s4.pk []⟩
  refine .skip<|.Z Y<|.bP Y Y Y ?_;rw[Cj hx,No (by simpa using c1)];exact⟨Y,s4.pk []⟩
 refine .dk [0,1] s3 Y (pl [0,1,2,3,4,5,6,7,8,9,10,11,12,13,14,15,16,17] .fin) λ s7 S2=>.ld 1 S2 0 Y<|.z 2 S2 Y<|.e Y (λ _ q=>.load fD Y (q.ext _ _ h.c0)) S2<|.ln 0 S2 (h.hW.ext ·.ext) Y<|.z 2 S2 Y<|.Gt 21 Y (Rr (by have:=BA (R:=SLt) W s;omega))<|.Z S2 Y<|.eE Y (Y)<|.Z Y<|.bP Y Y Y ?_;rw[GF hge];exact⟨Y,s7.pk []⟩
def JJ(bR:Nat)(vr:Value)(rs:List ByteArray)(x y:Nat)(w:World)(hc:w.cell? ⟨bR,0,none⟩=some vr)(hv:RdL w vr au rs)(hx:x<rs.length)(hy:y<rs.length):
  CallsV prog 185 [(.int .i64 x),(.int .i64 y),(.pointer (some ⟨bR,0,none⟩))] w λ r w'=>r= .int .i64 (Lib.compareBytes (rs.getD x ByteArray.empty).data.toList (rs.getD y ByteArray.empty).data.toList)/\Sat w [] w'/\w.drawn<=w'.drawn:=by
 refine bY func185 Y λ hs0=>.Z Y<|.seq ?_;obtain⟨a,ha⟩:∃ a,rs[x]? =some a:=⟨_,py hx⟩;obtain⟨b,hb⟩:∃ b,rs[y]? =some b:=⟨_,py hy⟩;refine .dk [] hs0 Y (pl [0,1,2,3,4,5,6,7,1008,9] .fin) λ s1 S1=>.e Y (λ _ s=>.load fD Y (s.ext _ _ hc)) S1<|.ix 1 S1 (hv.ext ·.ext) Y<|.le 0 S1 (hv.ext ·.ext) ha Y<|.e Y (λ _ s=>.load fD Y (s.ext _ _ hc)) S1<|.ix 1 S1 (hv.ext ·.ext) Y<|.le 0 S1 (hv.ext ·.ext) hb Y<|.c 0 S1 (AG a b _) Y λ r1 _ h1=>?_;obtain⟨rfl,rfl⟩:=h1;have S2:=s1.pk [];refine⟨S2,?_⟩;refine .Z S2 Y<|.aB Y Y ?_;rw[cH ha,cH hb];exact⟨Y,s1,Nat.le_succ _⟩
def ur(w0 w:World)(cs:List Chunk)(g:Nat)(vw vc:Value)(W:List ByteArray)(hs:Sat w0 ([aq g 166 [vw,vc,.slice none 0 0],cL vw 9 au W]++cs) w)(hok:okW W)(hsz:∀ x∈W,x.size<=1000000)(hn:W.length<=1000000)(hvc:vc.oneCell'=true):
  CallsV prog 124 [(.pointer (some ⟨g,0,none⟩))] w λ r w'=>r= .tuple #[]/\∃ vo,Sat w0 ([aq g 166 [vw,vc,vo],cL vw 9 au W,cL vo 3 (a8 .i64) (ordN W)]++cs) w':=by
 refine ai func124 Y Y ?_;refine .h<|.ld 3 hs 0 Y<|.ln 0 (hs.ah 1 Y) Y<|.f Y (.cQ (au) (ByteArray.empty) bL Y hs Y Y (by omega) (by omega) (by omega) λ v1 _ s1 _=>?_);have s1d:=s1.mn;refine .al 0 s1d Y λ b1 _ s2 _ _=>?_;have s2d:=s2.mn;refine .st 0 s2d 3 Y (h1:=(s2d.ah 2 Y).ab) λ w3 s3 _=>?_;have s3d:=s3.sn;refine .nil<|.seq<|.h<|.ld 3 s3d 0 Y<|.ln 0 (s3d.ah 1 Y) Y<|.Z Y<|.block ?_;have s4:=(s3d.az 3 (a8 .i64)).mn;have s5:Sat w0 ([aq g 166 [vw,vc,(.slice none 0 0)],cL vw 9 (au) (W),cL v1 9 (au) ((List.range 0).map (qG W)++List.replicate (W.length-0) ByteArray.empty),aq b1 28 [v1],cL (Value.slice none 0 0) 3 (a8 .i64) ([])]++cs) w3:=by
  have hq:List.replicate (W.length) ByteArray.empty=(List.range 0).map (qG W)++List.replicate (W.length-0) ByteArray.empty:=by simp
  rw[<-hq];exact s4
 have s6:Sat w0 ([aq g 166 [vw,vc,(.slice none 0 0)],cL vw 9 (au) (W),cL v1 9 (au) ((List.range 0).map (qG W)++List.replicate (W.length-0) ByteArray.empty),aq b1 28 [v1],cL (Value.slice none 0 0) 3 (a8 .i64) (List.range 0)]++cs) w3:=by
  have hq:[]=List.range 0:=rfl;rw[<-hq];exact s5
 refine .lq [0,2,14,15] Y (α:=Nat×Value) (λ(k,vo)=>[(16,(.int .i64 k))]) (λ(k,vo) w'=>Sat w0 (s6.V [(0,aq g 166 [vw,vc,vo]),(2,cL v1 9 (au) ((List.range k).map (qG W)++List.replicate (W.length-k) ByteArray.empty)),(4,cL vo 3 (a8 .i64) (List.range k))]++cs) w'/\(k<=W.length)) (λ(k,vo)=>W.length-k) (0,(.slice none 0 0)) ⟨s6,KB _⟩ ?_;rintro⟨k,vo⟩ w4 ⟨s7,hk⟩;refine .Z Y<|.seq<|.ae Y (λ c1=>?_) λ c1=>?_
 ·refine .skip<|.seq<|.block<|.seq ?_;obtain⟨x,hx⟩:∃ x,(W)[k]? =some x:=⟨_,py c1⟩;refine .region<|.ix 1 (s7.ah 1 Y) Y<|.le 0 (s7.ah 1 Y) hx Y<|.Z Y<|.seq ?_;have hxs:=hsz x (dm hx);have hshp1:=(s7.ah (E:=au) 2 Y).iR (by decide);refine .dt [0,1,3,4] s7 Y (pl [0,1,2,1003,4,1005] .fin) λ s8 S1=>.ld 0 S1 2 Y<|.c 2 S1 (Ap x _ (by omega)) Y λ r1 _ h_1=>?_;obtain⟨rfl,p1⟩:=h_1;have s9:=(s8.ax p1).mn;have S2:=s9.pt [0,1,3,4];refine⟨S2,?_⟩;refine .e Y (λ _ s=>.lj bL Y Y hshp1 (by simp;omega)) S2<|.f Y (.dj (a:=(wP x)) 2 Lx s9 Y Y Y Y (by simp;omega) λ w6 s10 _=>?_);have s10d:=s10.sn;have S3:=s10d.pt [0,1,3,4];refine⟨S3,?_⟩;refine .fin ?_;have s11:Sat w0 ([aq g 166 [vw,vc,vo],cL vw 9 (au) (W),cL v1 9 (au) ((List.range (k+1)).map (qG W)++List.replicate (W.length-(k+1)) ByteArray.empty),aq b1 28 [v1],cL vo 3 (a8 .i64) (List.range k)]++cs) w6:=by
   have hq:((List.range k).map (qG W)++List.replicate (W.length-k) ByteArray.empty).set k (wP x)=(List.range (k+1)).map (qG W)++List.replicate (W.length-(k+1)) ByteArray.empty:=GG hx;rw[<-hq];exact s10d
  refine .region<|.ld 4 s11 0 Y<|.b 1 Y (.bO (a8 .i64) k aY Y s11 Y λ v2 _ s12 _=>?_);have s12d:=s12.mn;refine .ap 0 s12d 4 (s12d.ah 5 Y) Y λ v3 _ s13 _=>?_;have s13d:=(s13.sn).pt [0,1,2,3,4];refine .st 2 s13d 0 Y (h1:=(s13d.ah 4 Y).ab) λ _ s14 _=>?_;have s14d:=s14.sn;refine .nil<|.U Y ?_;have s15:=(s14d.bk 4 Y (show List.range k++[k]=List.range (k+1)from To.symm)).sn;exact aR (k+1,v3) ⟨s15,by omega⟩
 refine .ar ?_;have hkW:k=W.length:=by omega
 have s16:=(s7.bk 2 Y (show(List.range k).map (qG W)++List.replicate (W.length-k) ByteArray.empty=(List.range W.length).map (qG W)from by rw[hkW];simp)).sn;have s17:=(s16.bk 4 Y (show List.range k=List.range W.length from by rw[hkW])).sn;refine .region<|.ld 3 s17 0 Y<|.e Y (.pO Y) ?_;have hcall:=FL w0 _ _ 4 W.length _ (List.range W.length) 185 #[.pointer (some ⟨b1,0,none⟩)] (Jn W) s17 Y (by simp;omega) (λ x hx=>Ut.1 hx) Om (λ x y=>Lib.compareBytes (qG W x).data.toList (qG W y).data.toList) (λ x y=>rH _ _) (λ a=>SLt.qU _) (λ h1 h2=>SLt.tr h1 h2) (λ h1 h2=>SLt.QY h1 h2)
  (λ x y l2 W2 hx hy hl hS=>by
   have hlen:((List.range W.length).map (qG W)).length=W.length:=by simp
   have hc:=JJ b1 v1 ((List.range W.length).map (qG W)) x y W2 (hS.cell (i:=3) (j:=0) Y Y) (hS.ah 2 Y) (by omega) (by omega);rw[Ck hx,Ck hy]at hc;exact hc)
 refine .c 0 (hcall) Y λ r2 _ h_2=>?_;obtain⟨rfl,sl1,hpm,hpw,h_2S⟩:=h_2;have hlo:sl1=ordN W:=zB hok hpm hpw;subst hlo;have h2d:Sat w0 ([aq g 166 [vw,vc,vo],cL vw 9 (au) (W),cL v1 9 (au) ((List.range W.length).map (qG W)),aq b1 28 [v1],cL vo 3 (a8 .i64) (ordN W)]++cs) _:=h_2S;refine .nil ?_;show aM _ _ _ _ _ _;refine cB Y ?_;have s18:=h2d.pt [0,1,4];exact⟨Y,_,s18⟩
def DQ(v:Value)(vs:List ByteArray)(w:World)(hv:RdL w v au vs):
  CallsV prog 77 [v] w λ r w'=>(dy vs≠0/\r= .tuple #[.pointer none,.slice none 0 0,.int .i64 ((dy vs:Nat):Int)]/\Sat w [] w')\/(dy vs=0/\∃ g vw vc vo vn,r= .tuple #[.pointer (some ⟨g,0,none⟩),vn,.int .i64 0]/\Sat w [aq g 166 [vw,vc,vo],cL vw 9 au (aa vs),cL vc 3 (a8 .i64) (aG vs),cL vo 3 (a8 .i64) (ordN (aa vs)),cL vn 3 (a8 .i64) (vs.map (di (aa vs)))] w'):=by
 refine bY func77 Y λ hs0=>.Z Y<|.seq<|.h<|.ln 1 (hv.ext hs0.ext) Y<|.Z Y<|.ae Y (λ c1=>?_) λ c1=>?_
 ·refine .Z Y<|.ret ?_;show aM _ _ _ _ _ _;refine iG Y Y Y Y ?_;have hq:dy vs=2:=by
   unfold dy;rw[No c1]
  rw[hq];exact .inl ⟨by decide,Y,hs0.pk []⟩
 refine .skip<|.h<|.f Y (.makeMap hs0 λ mb1 _ s2=>?_);refine .Z Y<|.seq<|.h<|.ln 1 (hv.ext s2.ext) Y<|.Z Y<|.block<|.lq [0,5,19,20] Y (α:=Nat×cV) (λ(k,m)=>[(21,(.int .i64 k))]) (λ(k,m) w'=>Sat w [qn mb1 (m)] w'/\(k<=vs.length)/\(∀ t,t∈bB m↔t∈vs.take k)/\(∀ t,iq m t=gm (vs.take k) t)/\(m.length<=k)/\(fj vs=fj (vs.drop k))) (λ(k,m)=>vs.length-k) (0,[]) ⟨s2,KB _,λ t=>by simp[bB],λ t=>by simp[iq,gm],KD _,Y⟩ ?_;rintro⟨k,m⟩ w2 ⟨s3,hk,hkeys,hget,hml,hchk⟩;refine .Z Y<|.seq<|.ae Y (λ c2=>?_) λ c2=>?_
 ·refine .skip<|.seq<|.block<|.seq ?_;obtain⟨x,hx⟩:∃ x,(vs)[k]? =some x:=⟨_,py c2⟩;refine .region<|.ix 0 (hv.ext s3.ext) Y<|.le 0 (hv.ext s3.ext) hx Y<|.Z Y<|.seq<|.block<|.h<|.a 1 Y (.bA underlying9 Y)<|.Z Y<|.ae Y (λ c3=>?_) λ c3=>?_
  ·refine .Z Y<|.ret ?_;show aM _ _ _ _ _ _;refine iG Y Y Y Y ?_;have hq:dy vs=2:=by
    unfold dy;have h9:fj vs=2:=by rw[hchk,dN hx,fj,No c3]
    rw[M2 c1,h9]<;>rfl
   rw[hq];exact .inl ⟨by decide,Y,s3.pk []⟩
  refine .h<|.cp 1 s3 (iB x _ (by omega)) Y λ _ s5=>.e Y (.cJ Y)<|.Z Y<|.cond Y (λ c4=>?_) (λ c4=>?_)
  ·refine .Z Y<|.ret ?_;show aM _ _ _ _ _ _;refine iG Y Y Y Y ?_;have hq:dy vs=7:=by
    unfold dy;have h9:fj vs=7:=by rw[hchk,dN hx,fj,M2 (by omega),No (by simpa using c4)]
    rw[M2 c1,h9]<;>rfl
   rw[hq];exact .inl ⟨by decide,Y,s5.pk []⟩
  refine .skip<|.region<|.a 2 Y (.lookup (i:=0) underlying186 underlying9 Tryz.zeroValue3 s5 Y Y Y)<|.e Y (.M6 (b:=1) Y Y (by have h1:=hget x;have h2:=HT (vs.take k) x;have h3:=Vq k vs;omega))<|.f Y (.mapUpdate (i:=0) (c:=((iq (m) x)+1)) underlying186 underlying9 s5 Y Y Y Y λ _ s7=>?_);have s7:=s7.nn;refine .nil<|.U Y ?_;exact aR (k+1,qo (m) x ((iq (m) x)+1)) ⟨s7,by omega,λ t=>by rw[EG,hkeys,ch hx,RE,RL];exact Or.comm,λ t=>by rw[GJ,ch hx,l4,hget,hget];by_cases e:t=x<;>simp[e,eq_comm];(first|done|(intro h;exact absurd h.symm e)|skip),RV (yB _ _ _) (by omega),by rw[hchk,dN hx,fj,M2 (by omega),M2 (by simpa using c4)]⟩
 refine .ar<|.seq<|.seq ?_;have hkl:k=vs.length:=by omega
 rw[hkl,RD]at hkeys hget;rw[hkl,UG]at hchk;have hmn:=s3.Jb 0 Y;have hmlen:m.length=(aa vs).length:=by rw[<-gw];exact Ez hmn hkeys
 have hokw:=Cl hchk;have hws:∀ x∈aa vs,x.size<=120:=λ x hx=>(wK hchk x (bK.1 hx)).1;have hwl:=bm vs;refine .region<|.a 1 Y (.Ox (i:=0) underlying186 s3 Y Y)<|.Z Y<|.ae Y (λ c5=>?_) λ c5=>?_
 ·refine .Z Y<|.ret ?_;show aM _ _ _ _ _ _;refine iG Y Y Y Y ?_;have hq:dy vs=2:=by
   unfold dy;have h9:fj vs=0:=hchk;rw[M2 c1,M2 (by rw[h9];decide),No (by omega)]
  rw[hq];exact .inl ⟨by decide,Y,s3.pk []⟩
 refine .skip<|.h<|.e Y (.build MI Y trivial Y)<|.bx 0 s3 Y λ b1 _ s9 _ _=>.Z Y<|.seq<|.h<|.b 1 Y (.rangeMap (i:=0) underlying186 s9 Y Y λ it1 _ s10=>?_);have s10:=s10.nn;refine .nil<|.block ?_;have s11:=s10.az 9 (au);have s12:=s11.bk 2 Y (show[]=bB []from Y);refine .lq [0,5,8,44] Y (α:=cV×Value) (λ(done,vw)=>[]) (λ(done,vw) w'=>Sat w [Bd mb1 it1 (m) (done),aq b1 166 [vw,(.slice none 0 0),(.slice none 0 0)],cL vw 9 (au) (bB done)] w') (λ(done,vw)=>m.length-done.length) ([],(.slice none 0 0)) s12 ?_;rintro⟨done,vw⟩ w7 s13;refine .h<|.f Y (.LY (i:=0) s13 Y Y ?_ ?_)
 ·intro hnx1;refine .Z Y<|.seq<|.ao Y (Y)<|.ar<|.seq ?_;have hdp:(bB done).Perm (bB m):=Ba hnx1;have hdl:(bB done).length=(aa vs).length:=by rw[hdp.length_eq,gw,hmlen]
  have hsw:gV (bB done)=aa vs:=kJ (hdp.nodup_iff.2 hmn) (λ x=>by rw[hdp.mem_iff];exact hkeys x);have s15:Sat w [qn mb1 (m),aq b1 166 [vw,(.slice none 0 0),(.slice none 0 0)],cL vw 9 (au) (bB done)] w7:=s13.Mb 0 Y;refine .region<|.ld 3 s15 1 Y<|.c 0 (xW w _ _ 2 _ _ s15 Y (by omega)) Y λ r2 _ h_2=>?_;obtain⟨rfl,h_2S⟩:=h_2;have h2d:Sat w [qn mb1 (m),aq b1 166 [vw,(.slice none 0 0),(.slice none 0 0)],cL vw 9 (au) (gV (bB done))] _:=h_2S;refine .nil<|.seq<|.seq ?_;have s16:=h2d.bk 2 Y (show gV (bB done)=aa vs from hsw);refine .region<|.ld 3 s16 1 Y<|.ln 0 (s16.ah 2 Y) Y<|.Z Y<|.block ?_;have s17:=s16.az 3 (a8 .i64);have s18:=s17.bk 3 Y (show[]=((aa vs).take 0).map (gm vs)from Y);refine .lq [0,5,8,67,68] Y (α:=Nat×Value) (λ(k,vc)=>[(69,(.int .i64 k))]) (λ(k,vc) w'=>Sat w (s18.U [(1,aq b1 166 [vw,vc,(.slice none 0 0)]),(3,cL vc 3 (a8 .i64) (((aa vs).take k).map (gm vs)))]) w'/\(k<=(aa vs).length)) (λ(k,vc)=>(aa vs).length-k) (0,(.slice none 0 0)) ⟨s18,KB _⟩ ?_;rintro⟨k,vc⟩ w10 ⟨s19,hk⟩;refine .Z Y<|.seq<|.ae Y (λ c6=>?_) λ c6=>?_
  ·refine .skip<|.seq<|.block<|.seq ?_;obtain⟨x,hx⟩:∃ x,(aa vs)[k]? =some x:=⟨_,py c6⟩;refine .region<|.ix 0 (s19.ah 2 Y) Y<|.le 0 (s19.ah 2 Y) hx Y<|.Z Y ?_;have hshp1:=(s19.ah (E:=a8 .i64) 3 Y).iR (by decide);refine .il [0,1,2] [0,2] s19 Y Y 12 (pl [0,1,2,3,4,5,6,7,1008,1009] (.loose 10 (pl [11] (.bar 12 .fin)))) mixed (by kernel_rfl) ?_;have s20:=s19.drew;have S1:=s20.pk [0,1,2];refine .ld 4 S1 1 Y<|.z 2 S1 Y<|.e Y (λ _ q=>.lookup (i:=0) underlying186 underlying9 Tryz.zeroValue3 q Y Y Y) S1<|.f Y (.bO (a8 .i64) (iq (m) x) aY Y s20 Y λ v1 _ s21 _=>?_);have s21:=s21.nn;have S2:=s21.pk [0,1,2];refine⟨S2,?_⟩;refine .f Y (.aD 3 aY s21 Y Y Y underlying22 (s21.ah 4 Y) (by simp only[sp,KM,Rq,KW];omega) (by simp only[sp,KM,Rq,KW];omega) λ v2 _ s22 _=>?_);have s22:=s22.pk [0,1,2,3];have S3:=s22.pk [0,1,2];refine⟨S3,?_⟩;refine .loose Y Y Y (λ _ q=>.nilCheck Y) S3<|.z 1 S3 Y<|.bar Y Y Y (OpE.aS ou s22 (i:=1) Y Y Y ((s22.ah 3 Y).ab) Y λ _ s23 _=>?_);have S4:=s23.pk [0,2];refine⟨S4,?_⟩;refine .fin<|.U Y ?_;have s24:=s23.bk 3 Y (show((aa vs).take k).map (gm vs)++[(iq (m) x)]=((aa vs).take (k+1)).map (gm vs)from by rw[ch hx,Si];simp[hget]);exact aR (k+1,v2) ⟨s24,by omega⟩
  refine .ar<|.seq ?_;have s25:=s19.bk 3 Y (show((aa vs).take k).map (gm vs)=aG vs from by rw[show k=(aa vs).length by omega,RD]<;>rfl);refine .region<|.z 1 Y ?_;have A1:=s25.tail.oc [1,2,0,3] 2;refine .c 0 (ur _ _ _ _ _ _ (aa vs) A1 (hokw) (λ x hx=>RV (hws x hx) (by decide)) (by omega) ((s25.ah 3 Y).ab)) Y λ r3 _ h_3=>?_;obtain⟨rfl,vo1,p2⟩:=h_3;have s26:=(Sat.order [3,0,1,4,2] (by decide) p2.join).aF.nn;refine .nil<|.h<|.ln 1 (hv.ext s26.ext) Y<|.f Y (.cQ (a8 .i64) (0) aY Y s26 Y Y (by omega) (by omega) (by omega) λ v3 _ s27 _=>?_);refine .Z Y<|.seq<|.h<|.ln 1 (hv.ext s27.ext) Y<|.Z Y<|.block ?_;have s28:=s27.bk 5 Y (show List.replicate (vs.length) 0=((vs.take 0).map (di (aa vs))++List.replicate (vs.length-0) 0)from by simp);refine .lq [8,12,91,92] Y (α:=Nat) (λ k=>[(93,(.int .i64 k))]) (λ k w'=>Sat w (s28.U [(5,cL v3 3 (a8 .i64) (((vs.take k).map (di (aa vs))++List.replicate (vs.length-k) 0)))]) w'/\(k<=vs.length)) (λ k=>vs.length-k) 0 ⟨s28,KB _⟩ ?_;rintro k w16 ⟨s29,hk⟩;refine .Z Y<|.seq<|.ae Y (λ c7=>?_) λ c7=>?_
  ·refine .skip<|.seq<|.block<|.seq ?_;obtain⟨x,hx⟩:∃ x,(vs)[k]? =some x:=⟨_,py c7⟩;refine .region<|.ix 1 (hv.ext s29.ext) Y<|.le 0 (hv.ext s29.ext) hx Y<|.Z Y<|.region<|.cq 4 s29 (uq _ _ _ _ _ _ _ x _ (s29.wb 1 2 3 4 Y Y Y Y) (hokw.1) (by omega)) Y λ _ s30=>.ix 3 (s30.ah 5 Y) Y (hj:=by simp;omega)<|.f Y (.dj (a:=(tN (aa vs) x).1) 5 dd s30 Y Y Y Y (by simp;omega) λ _ s31 _=>?_);refine .nil<|.U Y ?_;have s32:=s31.bk 5 Y (show((vs.take k).map (di (aa vs))++List.replicate (vs.length-k) 0).set k ((tN (aa vs) x).1)=((vs.take (k+1)).map (di (aa vs))++List.replicate (vs.length-(k+1)) 0)from EA hx (by rw[Cm hokw.1 (bK.2 (dm hx))]));exact aR (k+1) ⟨s32,by omega⟩
  refine .ar<|.Z Y<|.ret ?_;show aM _ _ _ _ _ _;refine iG Y Y Y Y ?_;have s33:=s29.bk 5 Y (show((vs.take k).map (di (aa vs))++List.replicate (vs.length-k) 0)=vs.map (di (aa vs))from by rw[show k=vs.length by omega,RD,Se];simp);have hq:dy vs=0:=by
   unfold dy;have h9:fj vs=0:=hchk;rw[M2 c1,M2 (by rw[h9];decide),M2 (by omega)]
  exact .inr ⟨hq,_,_,_,_,_,Y,s33.pk [1,2,3,4,5]⟩
 intro mk1 mv1 w8 hnx1 s14;refine .Z Y<|.seq<|.eE Y (Y)<|.skip<|.block<|.seq ?_;have hrl:=s14.OE 0 Y;refine .region<|.e Y (.entry (i:=0) (done:=done) (s:=mk1) (c:=mv1) s14 Y Y)<|.Z Y<|.region<|.ld 4 s14 1 Y<|.b 1 Y (.bO (au) mk1 bL Y s14 Y λ v_4 _ s35 _=>?_);have s35:=s35.nn;refine .ap 0 s35 2 (s35.ah 3 Y) Y (h1:=by simp only[sp,KM,gw]at*;omega) (h2:=by simp only[sp,KM,gw]at*;omega) λ v5 _ s36 _=>?_;have s36:=s36.pk [0,1,2];refine .st 2 s36 1 Y (h1:=(s36.ah 2 Y).ab) λ _ s37 _=>.nil ?_;have s38:=s37.bk 2 Y (show bB done++[mk1]=bB (done++[(mk1,mv1)])from(Bb _ _ _).symm);exact⟨(done++[(mk1,mv1)],v5),(wk Y),s38,(show(m.length-(done++[(mk1,mv1)]).length)<(m.length-done.length)from by rw[sp,KM]at hrl⊢;omega)⟩
def ri{W:List ByteArray}{k:Nat}{x:ByteArray}(h:W[k]? =some x):jG W (k:Int)=(x,true):=by
 have:=(IN.1 h).1;unfold jG;rw[No (by omega),TB,cH h]
def xX{v:Value}{vs:List ByteArray}{w:World}(hv:RdL w v au vs)(h:dy vs=0):CallsV prog 77 [v] w λ r w'=>∃ g vw vc vo vn,r= .tuple #[.pointer (some ⟨g,0,none⟩),vn,.int .i64 0]/\Sat w [aq g 166 [vw,vc,vo],cL vw 9 au (aa vs),cL vc 3 (a8 .i64) (aG vs),cL vo 3 (a8 .i64) (ordN (aa vs)),cL vn 3 (a8 .i64) (vs.map (di (aa vs)))] w':=
 (DQ v vs w hv).mono λ r w' hq=>by rcases hq with⟨h0,_⟩|⟨_,h1⟩;exact absurd h h0;exact h1
def FM{vs:List ByteArray}(h:dy vs=0):vs.length<=4096:=by
 unfold dy at h;split at h
 ·cases h
 omega
def mw{l:List ByteArray}{i c:Nat}(h:(aG l)[i]? =some c):1<=c:=by
 unfold aG at h;rw[Rz]at h;obtain⟨y,hy,rfl⟩:=SD.1 h;exact L9 (bK.1 (Rv hy))
def JK{l:List Nat}{i c:Nat}(h:l[i]? =some c):(l.set i (c+1)).sum=l.sum+1:=by
 induction l generalizing i with
 |nil=>simp at h
 |cons x r ih=>
  cases i with
  |zero=>simp at h;subst h;simp;omega
  |succ i=>simp at h;simp[ih h];omega
def AI(vs:List ByteArray):(aG vs).sum=vs.length:=by
 induction vs using sI with
 |h0=>rfl
 |h1 vs v ih=>
  rcases Ub ((aa vs)[di (aa vs) v]? =some v)with h|h
  ·obtain⟨c,h1,h2⟩:=nX h;rw[h2,JK h1,ih];simp
  rw[sJ h,UR,UI,sp,<-ih];have:=If List.sum (RY (di (aa vs) v) (aG vs));rw[UR]at this;simp;omega
def xY(l:List Nat)(k:Nat):(l.take k).sum<=l.sum:=by
 have:=If List.sum (RY k l);rw[UR]at this;omega
def iT{l:List Nat}{k c:Nat}(h:l[k]? =some c):(l.take (k+1)).sum=(l.take k).sum+c:=by
 rw[ch h,UR];simp
def BZ{vs:List ByteArray}(h:dy vs=0):fj vs=0:=by
 unfold dy at h;split at h
 ·cases h
 split at h
 ·rename_i h1 h2;exact absurd h h2
 rename_i h1 h2;exact Sj.1 h2
def eU:List UInt8->List UInt8->Nat
 |x::a,y::b=>if x=y then eU a b+1 else 0
 |_,_=>0
def bn(a b:ByteArray):Nat:=eU a.data.toList b.data.toList
def C0:∀ (a b:List UInt8),eU a b<=b.length
 |x::a,y::b=>by
  have:=C0 a b;unfold eU;split
  ·simp;omega
  omega
 |[],_=>by simp[eU]
 |_::_,[]=>by simp[eU]
def wB(a b:ByteArray):bn a b<=b.size:=by have:=C0 a.data.toList b.data.toList;rw[tH]at this;exact this
def FN{a b:List UInt8}{k c:Nat}{x y:UInt8}(hx:a[k]? =some x)(hy:b[k]? =some y)(h:c=k+eU (a.drop k) (b.drop k))(e:x.toNat=y.toNat):c=k+1+eU (a.drop (k+1)) (b.drop (k+1)):=by
 have e2:x=y:=Uz.1 e;rw[dN hx,dN hy,eU,No e2]at h;omega
def FO{a b:List UInt8}{k c:Nat}{x y:UInt8}(hx:a[k]? =some x)(hy:b[k]? =some y)(h:c=k+eU (a.drop k) (b.drop k))(e:¬ x.toNat=y.toNat):c=k:=by
 rw[dN hx,dN hy,eU,M2 λ e2=>e (by rw[e2])]at h;exact h
def xZ{a b:List UInt8}{k c:Nat}(hk:a.length<=k)(h:c=k+eU (a.drop k) (b.drop k)):c=k:=by
 rw[SF hk]at h;simpa[eU]using h
def y0{a b:List UInt8}{k c:Nat}(hk:b.length<=k)(h:c=k+eU (a.drop k) (b.drop k)):c=k:=by
 rw[SF hk]at h;cases hd:a.drop k with
 |nil=>rw[hd]at h;simpa[eU]using h
 |cons x r=>rw[hd]at h;simpa[eU]using h
def ei(W:List ByteArray)(k:Nat):ByteArray:=if k=0 then ByteArray.mk #[]else W.getD (k-1) ByteArray.empty
def wC(p x:ByteArray)(c:Nat):List Nat:=uv (bn p x)++uv (x.size-bn p x)++cr (x.extract (bn p x) x.size)++uv (c-1)
def cS(W:List ByteArray)(C:List Nat):Nat->List Nat
 |0=>uv W.length
 |k+1=>cS W C k++wC (ei W k) (W.getD k ByteArray.empty) (C.getD k 0)
def pS(p x:ByteArray)(c:Nat):(wC p x c).length<=x.size+30:=by
 have h1:=aC (bn p x);have h2:=aC (x.size-bn p x);have h3:=aC (c-1);unfold wC;simp only[sp,ay,Rw];omega
def gp(W:List ByteArray)(C:List Nat):∀ k,∀ x∈cS W C k,x<256
 |0,x,h=>de _ x h
 |k+1,x,h=>by
  simp only[cS,wC,RE]at h;rcases h with h|(((h|h)|h)|h)
  ·exact gp W C k x h
  ·exact de _ x h
  ·exact de _ x h
  ·exact lD _ x h
  exact de _ x h
def dV{W:List ByteArray}(C:List Nat)(h:∀ x∈W,x.size<=120):∀ k,k<=W.length->(cS W C k).length<=10+k*150
 |0,_=>by have:=aC W.length;simp only[cS];omega
 |k+1,hk=>by
  have ih:=dV C h k (by omega);have hx:W[k]? =some W[k]:=py (by omega);have h1:=h _ (Rv hx);have h2:=pS (ei W k) (W.getD k ByteArray.empty) (C.getD k 0);rw[cH hx]at h2;simp only[cS,sp,cH hx];omega
def oC{W:List ByteArray}{C:List Nat}{k c:Nat}{p x:ByteArray}(hx:W[k]? =some x)(hc:C[k]? =some c)(hp:p=ei W k):cS W C k++uv (bn p x)++uv (x.size-bn p x)++cr (x.extract (bn p x) x.size)++uv (c-1)=cS W C (k+1):=by
 simp only[cS,wC,cH hx,cH hc,<-hp,KV]
def DR(a b:ByteArray)(w:World)(ha:a.size<=1000000):
  CallsV prog 125 [(.string a),(.string b)] w λ r w'=>r= .int .i64 ((bn a b:Nat):Int)/\Sat w [] w':=by
 refine bY func125 Y λ hs0=>.Z Y<|.Z Y<|.seq<|.block<|.lq [0,1] Y (α:=Nat) (λ k=>[(5,(.int .i64 k))]) (λ k w'=>Sat w [] w'/\(k<=a.size)/\(bn a b=k+eU (a.data.toList.drop k) (b.data.toList.drop k))) (λ k=>a.size-k) 0 ⟨hs0,KB _,by rw[Tm,Tm,RX]<;>rfl⟩ ?_;rintro k w1 ⟨s1,hk,hcom⟩;refine .seq<|.seq ?_;rcases(show¬ k<a.size\/(k<a.size/\¬ k<b.size)\/(k<a.size/\k<b.size) by omega)with hcw|hcw|hcw
 ·refine .dk [] s1 Y (pl [0,1,2,3,4,5,6,7,8,9,10,11,12,13,14,15,16,17,18] .fin) λ s2 S1=>.z 2 S1 Y<|.e Y (λ _ s=>.bA underlying9 Y) S1<|.z 2 S1 Y<|.Gf 10 Y (AT hcw)<|.Z S1 Y<|.ao Y (Y)<|.ar<|.Z Y<|.aB Y Y ?_;have hq:bn a b=k:=xZ (by rw[tH];omega) hcom;rw[hq];exact⟨Y,s2⟩
 ·refine .dk [] s1 Y (pl [0,1,2,3,4,5,6,7,8,9,10,11,12,13,14,15,16,17,18] .fin) λ s3 S2=>.z 2 S2 Y<|.e Y (λ _ s=>.bA underlying9 Y) S2<|.z 2 S2 Y<|.Gt 10 Y (Rr hcw.1)<|.a 2 S2 Y (λ _ s=>.bA underlying9 Y)<|.z 3 S2 Y<|.Gf 16 Y (AT hcw.2)<|.Z S2 Y<|.ao Y (Y)<|.ar<|.Z Y<|.aB Y Y ?_;have hq:bn a b=k:=y0 (by rw[tH];omega) hcom;rw[hq];exact⟨Y,s3⟩
 obtain⟨x,hx⟩:∃ x,a.data.toList[k]? =some x:=⟨_,py (by rw[tH];omega)⟩;obtain⟨y,hy⟩:∃ y,b.data.toList[k]? =some y:=⟨_,py (by rw[tH];omega)⟩;refine .dk [] s1 Y (pl [0,1,2,3,4,5,6,7,8,9,10,11,12,13,14,15,16,17,18] .fin) λ s4 S3=>.z 2 S3 Y<|.e Y (λ _ s=>.bA underlying9 Y) S3<|.z 2 S3 Y<|.Gt 10 Y (Rr hcw.1)<|.a 2 S3 Y (λ _ s=>.bA underlying9 Y)<|.z 3 S3 Y<|.Gt 16 Y (Rr hcw.2)<|.a 2 S3 Y (λ _ s=>.fg underlying9 Y Y hx)<|.a 2 S3 Y (λ _ s=>.fg underlying9 Y Y hy)<|.Z S3 Y<|.ae Y (λ c1=>?_) λ c1=>?_
 ·refine .skip<|.block<|.U Y ?_;exact aR (k+1) ⟨s4,by omega,FN hx hy hcom c1⟩
 refine .ar<|.Z Y<|.aB Y Y ?_;have hq:bn a b=k:=FO hx hy hcom c1;rw[hq];exact⟨Y,s4⟩
def uu(g:Nat)(vw vc vo:Value)(W:List ByteArray)(C O:List Nat)(w:World)(h:LexAt w g vw vc vo W C O)(hCl:C.length=W.length)(hsz:∀ x∈W,x.size<=120)(hC:∀ c∈C,1<=c/\c<=1000000)(hn:W.length<=10000):
  CallsV prog 78 [(.pointer (some ⟨g,0,none⟩))] w λ r w'=>Sat w [cL r 5 (a8 .u8) (aN (cS W C W.length))] w':=by
 refine bY func78 Y λ hs0=>.Z Y<|.h<|.a 3 Y (.load fD Y (hs0.ext _ _ h.c0))<|.ln 0 (h.hW.ext hs0.ext) Y<|.c 1 (dn (Value.slice none 0 0) ([]) (W.length) _ (RdL.nil _ _) (KB _) (by omega)) Y λ r1 _ h1=>?_;have s1:=hs0.ax h1;refine .Z Y<|.Z Y<|.seq<|.seq ?_;have s2:=s1.bk 0 Y (show uv (W.length)=cS W C 0 from Y);refine .region<|.a 3 Y (.load fD Y (s2.ext _ _ h.c0))<|.ln 0 (h.hW.ext s2.ext) Y<|.Z Y<|.block<|.lq [0,18,19] Y (α:=Nat×ByteArray×Value) (λ(k,p,v)=>[(3,v),(4,(.string p)),(20,(.int .i64 k))]) (λ(k,p,v) w'=>Sat w [cL v 5 (a8 .u8) (cS W C k)] w'/\(k<=W.length)/\(p=ei W k)/\(p.size<=120)) (λ(k,p,v)=>W.length-k) (0,(ByteArray.mk #[]),r1) ⟨s2,KB _,Y,KB _⟩ ?_;rintro⟨k,p,v⟩ w2 ⟨s3,hk,hp,hpl⟩;refine .Z Y<|.seq<|.ae Y (λ c_1=>?_) λ c_1=>?_
 ·refine .skip<|.seq<|.block<|.seq ?_;obtain⟨x,hx⟩:∃ x,(W)[k]? =some x:=⟨_,py c_1⟩;obtain⟨c,hcc⟩:∃ c,C[k]? =some c:=⟨_,py (by omega)⟩;have hxs:=hsz x (Rv hx);have hcb:=hC c (Rv hcc);have hcm:=wB p x;have hel:=dV C hsz k (by omega);have hu1:=aC (bn p x);have hu2:=aC (x.size-bn p x);have hu3:=aC (c-1);refine .region<|.ix 1 (h.hW.ext s3.ext) Y<|.le 0 (h.hW.ext s3.ext) hx Y<|.Z Y<|.h<|.cq 2 s3 (DR p x _ (by omega)) Y λ _ s4=>.Z Y<|.h<|.c 3 (dn v (cS W C k) ((bn p x)) _ (s4.ah 0 Y) (by(try simp only[sp,ay,Rw]);omega) (by omega)) Y λ r3 _ h3=>?_;have s5:=s4.ax h3;refine .Z Y<|.h<|.a 2 Y (.bA underlying9 Y)<|.c 3 (dn r3 (cS W C k++uv ((bn p x))) ((x.size-(bn p x))) _ (s5.ah 1 Y) (by(try simp only[sp,ay,Rw]);omega) (by omega)) Y λ r4 _ h4=>?_;have s6:=s5.ax h4;refine .Z Y<|.h<|.a 3 Y (.fZ (l:=(bn p x)) (h:=x.size) underlying9 Y ⟨_,Y⟩ Y (by omega) (by omega))<|.f Y (.gO 2 ck s6 Y Y Y (oU underlying9 _) (by simp only[sp,ay,Rw];omega) (by simp only[sp,ay,Rw];omega) λ v1 _ s7 _=>?_);refine .Z Y<|.h<|.a 4 Y (.load gj Y (s7.ext _ _ h.c1))<|.ix 1 (h.hC.ext s7.ext) Y<|.le 0 (h.hC.ext s7.ext) hcc Y<|.c 2 (dn v1 (cS W C k++uv ((bn p x))++uv ((x.size-(bn p x)))++cr (x.extract (bn p x) x.size)) ((c-1)) _ (s7.ah 2 Y) (by(try simp only[sp,ay,Rw]);omega) (by omega)) Y λ r5 _ h5=>?_;have s8:=(s7.ax h5).nn;refine .Z Y<|.trim [0,3,4,5,6,7,18,19,20] Y<|.U Y<|.U Y ?_;have s9:=s8.bk 3 Y (show cS W C k++uv ((bn p x))++uv ((x.size-(bn p x)))++cr (x.extract (bn p x) x.size)++uv ((c-1))=cS W C (k+1)from oC hx hcc hp);exact aR (k+1,x,r5) ⟨s9.pk [3],by omega,by unfold ei;rw[M2 (by omega),Sx,cH hx],hxs⟩
 refine .ar<|.seq ?_;have s11:=s3.bk 0 Y (show cS W C k=cS W C W.length from by rw[show k=W.length by omega]);have hel:=dV C hsz W.length (KD _);refine .region<|.c 1 (qw _ (cS W C W.length) _ (s11.ah 0 Y) (gp W C _) (by omega)) Y λ r6 _ h6=>?_;have s12:=(s11.ax h6).nn;refine .Z Y<|.aB Y Y ?_;exact s12.pk [1]
