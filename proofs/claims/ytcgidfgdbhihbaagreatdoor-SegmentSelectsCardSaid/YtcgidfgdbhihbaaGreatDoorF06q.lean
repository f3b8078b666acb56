/-The walks of the functions of F06q,printed by our own program (kwgen.py) out of our descriptions (base.py). -/
import Derived.Test.YtcgidfgdbhihbaaGreatDoorF19a
open List renaming length→I,take→J,drop→ww
open ByteArray renaming empty→wt,mk→ws
set_option linter.all false
set_option maxHeartbeats 1000000
set_option maxRecDepth 100000
open Go.Proofs.YtcgidfgdbhihbaaGreatDoor
open List
open Go.Proofs.Tryz
namespace Go.Proofs.YtcgidfgdbhihbaaGreatDoor
open Go.RowKit Go.Kw
def DU:rH prog 86 [.s,.s]=true:=F
def N4:rH prog 81 [.s,.b]=true:=F
def N5:rH prog 69 [.s,.i .i64,.i .i64,.i .i64]=true:=F
def wx(v u:Value)(l m:List (ByteArray×Bool))(w:World)(g:RdL w v cj l)(o:RdL w u cj m)(Q:I l<=5000):
  CallsV prog 42 [v,u] w λ r W=>r= .bool (decide (l=m))/\Sat w [] W:=by
 refine cd func42 Y λ H=>.W Y<|.h<|.ln 1 (g.E H.E) Y<|.ln 1 (o.E H.E) Y<|.Z Y<|.ab Y (λ D=>?_) λ D=>?_
 ·exact .Z Y<|.ax Y Y ⟨If Value.bool (IN λ e=>D (If List.length e)).symm,H.pk []⟩
 refine .p<|.h<|.ln 1 (g.E H.E) Y<|.V Y<|.lq [0,1,12] Y (α:=Nat) (λ k=>[(13,(.I k))]) (λ k W=>Sat w [] W/\(∀ (j:Nat) s t,j<k->l[j]? =some s->m[j]? =some t->s=t)) (λ k=>I l-k) 0 ⟨H,λ j s t h=>absurd h O⟩ ?_;rintro k R ⟨N,K⟩;refine .W Y<|.ab Y (λ E=>?_) λ E=>?_
 ·refine .q<|.s ?_;obtain⟨x,p⟩:=ut l k E;obtain⟨y,A⟩:=ut m k O;refine .U Y<|.s<|.dk [] N Y (pl [0,1,2,3,4,5,6,7,8] .fin) λ P d=>.ix 2 d (g.E ·.E) Y<|.lg 0 d (g.E ·.E) p Y<|.ix 2 d (o.E ·.E) Y<|.lg 0 d (o.E ·.E) A Y<|.e Y (λ _ q=>.U0 (a:=x) (b:=y) RH N4 Y Y) d<|.fin<|.ab Y (λ i=>?_) λ i=>?_
  ·exact .Z Y<|.ax Y Y ⟨If Value.bool (IN λ e=>i (get_eq e p A)).symm,P.pk []⟩
  exact .k<|.U Y<|aP (k+1) ⟨P,fN K p A (Y3.1 i)⟩
 exact .aq<|.Z Y<|.ax Y Y ⟨If Value.bool (LW (mN O K O)).symm,N.pk []⟩
def wy(v u:Value)(l m:List Pr)(w:World)(g:RdL w v aV l)(o:RdL w u aV m)(Q:I l<=5000):
  CallsV prog 85 [v,u] w λ r W=>r= .bool (decide (l=m))/\Sat w [] W:=by
 refine cd func85 Y λ H=>.W Y<|.h<|.ln 1 (g.E H.E) Y<|.ln 1 (o.E H.E) Y<|.Z Y<|.ab Y (λ D=>?_) λ D=>?_
 ·exact .Z Y<|.ax Y Y ⟨If Value.bool (IN λ e=>D (If List.length e)).symm,H.pk []⟩
 refine .p<|.h<|.ln 1 (g.E H.E) Y<|.V Y<|.lq [0,1,12] Y (α:=Nat) (λ k=>[(13,(.I k))]) (λ k W=>Sat w [] W/\(∀ (j:Nat) s t,j<k->l[j]? =some s->m[j]? =some t->s=t)) (λ k=>I l-k) 0 ⟨H,λ j s t h=>absurd h O⟩ ?_;rintro k R ⟨N,K⟩;refine .W Y<|.ab Y (λ E=>?_) λ E=>?_
 ·refine .q<|.s ?_;obtain⟨x,p⟩:=ut l k E;obtain⟨y,A⟩:=ut m k O;refine .U Y<|.s<|.dk [] N Y (pl [0,1,2,3,4,5,6,7,8] .fin) λ P d=>.ix 2 d (g.E ·.E) Y<|.lg 0 d (g.E ·.E) p Y<|.ix 2 d (o.E ·.E) Y<|.lg 0 d (o.E ·.E) A Y<|.e Y (λ _ q=>.U0 (a:=x) (b:=y) JB DU Y Y) d<|.fin<|.ab Y (λ i=>?_) λ i=>?_
  ·exact .Z Y<|.ax Y Y ⟨If Value.bool (IN λ e=>i (get_eq e p A)).symm,P.pk []⟩
  exact .k<|.U Y<|aP (k+1) ⟨P,fN K p A (Y3.1 i)⟩
 exact .aq<|.Z Y<|.ax Y Y ⟨If Value.bool (LW (mN O K O)).symm,N.pk []⟩
def G1(a b:Co)(w:World)(H:RdC w a)(A:RdC w b)(D:Sm a):
  CallsV prog 31 [(.agg #[a.va,a.vt,a.vx,a.vr,a.vn,a.vh,a.vl]),(.agg #[b.va,b.vt,b.vx,b.vr,b.vn,b.vh,b.vl])] w λ r W=>∃ q:Bool,r= .bool q/\(q=true↔a.v=b.v)/\Sat w [] W:=by
 have i5:=D.at_;have i6:=D.tk;have i7:=D.tx;have i8:=D.rg;have i9:=D.nd;have k0:=D.hd;have k1:=D.rl;have h6:=Sat.start w;refine aa func31 Y Y<|.h<|.bx 0 h6 Y λ b1 _ s1 _ _=>.bx 0 s1 Y λ b2 _ s2 _ _=>.W Y<|.s<|.md [0,1,2,3,4] Y (λ K L' W=>Weak ([(75,(.bool (decide (((((((¬ (a.at_=b.at_))\/(I a.tk≠I b.tk))\/(I a.tx≠I b.tx))\/(I a.rg≠I b.rg))\/(I a.nd≠I b.nd))\/(I a.hd≠I b.hd))\/(I a.rl≠I b.rl)))))]++K) L'/\Sat w s2.L W) ?_ ?_
 ·refine .r<|.ld 1 s2 0 Y<|.ld 1 s2 1 Y<|.cq 0 s2 (wx _ _ a.at_ b.at_ _ (H.a.E s2.E) (A.a.E s2.E) O) Y λ _ o=>.e Y (.oG Y)<|.z 1 Y<|.B 22 Y (λ g1=>?_) λ g1=>?_
  ·exact .Z Y ⟨⟨If some (If Value.bool sp),Y,Y,Y,Y,Y,trivial⟩,o⟩
  refine .ld 1 o 0 Y<|.ln 0 (H.t.E o.E) Y<|.ld 1 o 1 Y<|.ln 0 (A.t.E o.E) Y<|.z 3 Y<|.B 31 Y (λ g2=>?_) λ g2=>?_
  ·exact .Z Y ⟨⟨If some (If Value.bool a0X),Y,Y,Y,Y,Y,trivial⟩,o⟩
  refine .ld 1 o 0 Y<|.ln 0 (H.x.E o.E) Y<|.ld 1 o 1 Y<|.ln 0 (A.x.E o.E) Y<|.z 3 Y<|.B 40 Y (λ g3=>?_) λ g3=>?_
  ·exact .Z Y ⟨⟨If some (If Value.bool (by simp[g1,g2,g3])),Y,Y,Y,Y,Y,trivial⟩,o⟩
  refine .ld 1 o 0 Y<|.ln 0 (H.r.E o.E) Y<|.ld 1 o 1 Y<|.ln 0 (A.r.E o.E) Y<|.z 3 Y<|.B 49 Y (λ g4=>?_) λ g4=>?_
  ·exact .Z Y ⟨⟨If some (If Value.bool (by simp[g1,g2,g3,g4])),Y,Y,Y,Y,Y,trivial⟩,o⟩
  refine .ld 1 o 0 Y<|.ln 0 (H.n.E o.E) Y<|.ld 1 o 1 Y<|.ln 0 (A.n.E o.E) Y<|.z 3 Y<|.B 58 Y (λ g5=>?_) λ g5=>?_
  ·exact .Z Y ⟨⟨If some (If Value.bool (by simp[g1,g2,g3,g4,g5])),Y,Y,Y,Y,Y,trivial⟩,o⟩
  refine .ld 1 o 0 Y<|.ln 0 (H.h.E o.E) Y<|.ld 1 o 1 Y<|.ln 0 (A.h.E o.E) Y<|.z 3 Y<|.B 67 Y (λ g6=>?_) λ g6=>?_
  ·exact .Z Y ⟨⟨If some (If Value.bool (by simp[g1,g2,g3,g4,g5,g6])),Y,Y,Y,Y,Y,trivial⟩,o⟩
  exact .ld 1 o 0 Y<|.ln 0 (H.l.E o.E) Y<|.ld 1 o 1 Y<|.ln 0 (A.l.E o.E) Y<|.Z Y ⟨⟨If some (If Value.bool (by simp[g1,g2,g3,g4,g5,g6])),Y,Y,Y,Y,Y,trivial⟩,o⟩
 rintro L' m0 ⟨h7,s4⟩;refine .weaken _ h7<|.ab Y (λ c1=>?_) λ c1=>?_
 ·exact .Z Y<|.ax Y Y ⟨false,Y,ZZ bl (λ e=>UE c1 e),s4.pk []⟩
 refine .p<|.s ?_;obtain⟨eA,h0,h1,h2,h3,h4,h5⟩:=Rt c1;refine .r<|.ld 1 s4 0 Y<|.ln 0 (H.t.E s4.E) Y<|.V Y<|.lq [0,1,2,3,78] Y (α:=Nat) (λ kt=>[(79,(.I kt))]) (λ kt W=>Sat w s4.L W/\(∀ (j:Nat) s t,j<kt->a.tk[j]? =some s->b.tk[j]? =some t->s.ns=t.ns)) (λ kt=>I a.tk-kt) 0 ⟨s4,λ j s t h=>absurd h O⟩ ?_;rintro kt w5 ⟨s6,hT⟩;refine .W Y<|.ab Y (λ c2=>?_) λ c2=>?_
 ·refine .q<|.s ?_;obtain⟨x,d⟩:=ut a.tk kt c2;obtain⟨y,p⟩:=ut b.tk kt O;have e2:=D.tr x (a8 d);refine .U Y<|.s<|.s<|.dk [0,1] s6 Y (pl [0,1,2,3,4,5,6,7,8,9,10,11,12] .fin) λ s7 X=>.ld 1 X 0 Y<|.ix 1 X (H.t.E ·.E) Y<|.le 0 X (H.t.E ·.E) d Y<|.ln 0 X ((H.tr x (a8 d)).E ·.E) Y<|.ld 1 X 1 Y<|.ix 1 X (A.t.E ·.E) Y<|.le 0 X (A.t.E ·.E) p Y<|.ln 0 X ((A.tr y (a8 p)).E ·.E) Y<|.Z X Y<|.ab Y (λ c3=>?_) λ c3=>?_
  ·exact .Z Y<|.ax Y Y ⟨false,Y,ZZ bl (λ e=>c3 (If List.length (kM (If oL.tk e) d p))),s7.pk []⟩
  refine .k<|.h<|.ld 1 s7 0 Y<|.ix 1 (H.t.E s7.E) Y<|.le 0 (H.t.E s7.E) d Y<|.ln 0 ((H.tr x (a8 d)).E s7.E) Y<|.V Y<|have i0:I x.ns=I y.ns:=Y3.1 c3;.lq [0,1,2,3,5,78,79,100] Y (α:=Nat) (λ j=>[(101,(.I j))]) (λ j W=>Sat w s7.L W/\(∀ (i:Nat) s t,i<j->x.ns[i]? =some s->y.ns[i]? =some t->s=t)) (λ j=>I x.ns-j) 0 ⟨s7,λ i s t h=>absurd h O⟩ ?_;rintro j w6 ⟨s9,hS⟩;refine .W Y<|.ab Y (λ c4=>?_) λ c4=>?_
  ·refine .q<|.s ?_;obtain⟨u,hu⟩:=ut x.ns j c4;obtain⟨v,hv⟩:=ut y.ns j O;refine .U Y<|.s<|.dk [0,1] s9 Y (pl [0,1,2,3,4,5,6,7,8,9,10,11,12,13,14,15,16] .fin) λ e3 P=>.ld 1 P 0 Y<|.ix 1 P (H.t.E ·.E) Y<|.le 0 P (H.t.E ·.E) d Y<|.ix 1 P ((H.tr x (a8 d)).E ·.E) Y<|.le 0 P ((H.tr x (a8 d)).E ·.E) hu Y<|.ld 1 P 1 Y<|.ix 1 P (A.t.E ·.E) Y<|.le 0 P (A.t.E ·.E) p Y<|.ix 1 P ((A.tr y (a8 p)).E ·.E) Y<|.le 0 P ((A.tr y (a8 p)).E ·.E) hv Y<|.e Y (λ _ hS=>.ej Y Y) P<|.fin<|.ab Y (λ c5=>?_) λ c5=>?_
   ·exact .Z Y<|.ax Y Y ⟨false,Y,ZZ bl (λ e=>c5 (get_eq (kM (If oL.tk e) d p) hu hv)),e3.pk []⟩
   exact .k<|.U Y<|aP (j+1) ⟨e3,fN hS hu hv (Y3.1 c5)⟩
  exact .aq<|.U Y<|aP (kt+1) ⟨s9,fN hT d p (mN i0 hS O)⟩
 refine .aq<|.s<|.s<|have eT:a.tk.map (·.ns)=b.tk.map (·.ns):=su h0 hT O;.r<|.ld 1 s6 0 Y<|.ln 0 (H.x.E s6.E) Y<|.V Y<|.lq [0,1,2,3,78,79,124,125] Y (α:=Nat) (λ kx=>[(126,(.I kx))]) (λ kx W=>Sat w s6.L W/\(∀ (j:Nat) s t,j<kx->a.tx[j]? =some s->b.tx[j]? =some t->s.v=t.v)) (λ kx=>I a.tx-kx) 0 ⟨s6,λ j s t h=>absurd h O⟩ ?_;rintro kx w7 ⟨E,hX⟩;refine .W Y<|.ab Y (λ c6=>?_) λ c6=>?_
 ·refine .q<|.s ?_;obtain⟨x,d⟩:=ut a.tx kx c6;obtain⟨y,p⟩:=ut b.tx kx O;have e2:=D.xr x (a8 d);refine .r<|.ix 1 (H.x.E E.E) Y<|.lg 0 (H.x.E E.E) d Y<|.al 0 E Y λ b3 _ a9 _ _=>have a9:=a9.nn;.sa 1 a9 2 Y ((aL).one _) λ _ a1 _=>.j<|.h<|.ld 1 a1 1 Y<|.ix 1 (A.x.E a1.E) Y<|.lg 0 (A.x.E a1.E) p Y<|.al 0 a1 Y λ b4 _ i1 _ _=>.sa 0 i1 3 Y ((aL).one _) λ _ g _=>have g:=g.nn;.j<|.s<|.md [0,1,2,3,7,8,9,78,79,124,125,126] Y (λ K L' W=>Weak ([(162,(.bool (decide ((((x.nm≠y.nm)\/((x.b:Int)≠(y.b:Int)))\/((x.e:Int)≠(y.e:Int)))\/(¬ (x.ps=y.ps))))))]++K) L'/\Sat w g.L W) ?_ ?_
  ·refine .r<|.ld 1 g 2 Y<|.ld 1 g 3 Y<|.e Y (.ej Y Y)<|.z 1 Y<|.B 141 Y (λ g7=>?_) λ g7=>?_
   ·exact .Z Y ⟨⟨If some (If Value.bool (by simp[g7])),Y,Y,Y,Y,Y,Y,Y,Y,Y,Y,Y,Y,trivial⟩,g⟩
   refine .ld 1 g 2 Y<|.ld 1 g 3 Y<|.a 0 Y (.neq Y Y)<|.z 2 Y<|.B 148 Y (λ g8=>?_) λ g8=>?_
   ·exact .Z Y ⟨⟨If some (If Value.bool (by simp[g7,g8])),Y,Y,Y,Y,Y,Y,Y,Y,Y,Y,Y,Y,trivial⟩,g⟩
   refine .ld 1 g 2 Y<|.ld 1 g 3 Y<|.a 0 Y (.neq Y Y)<|.z 2 Y<|.B 155 Y (λ g9=>?_) λ g9=>?_
   ·exact .Z Y ⟨⟨If some (If Value.bool (by simp[g7,g8,g9])),Y,Y,Y,Y,Y,Y,Y,Y,Y,Y,Y,Y,trivial⟩,g⟩
   exact .ld 1 g 2 Y<|.ld 1 g 3 Y<|.cp 0 g (wy _ _ x.ps y.ps _ ((H.xr x (a8 d)).E g.E) ((A.xr y (a8 p)).E g.E) O) Y λ _ i2=>.a 0 Y (.oG Y)<|.Z Y ⟨⟨If some (If Value.bool (by simp[g7,g8,g9])),Y,Y,Y,Y,Y,Y,Y,Y,Y,Y,Y,Y,trivial⟩,i2⟩
  rintro L' k2 ⟨h8,e4⟩;refine .weaken _ h8<|.ab Y (λ c7=>?_) λ c7=>?_
  ·exact .Z Y<|.ax Y Y ⟨false,Y,ZZ bl (λ e=>Qa c7 (kM (If oL.tx e) d p)),e4.pk []⟩
  exact .k<|.U Y<|aP (kx+1) ⟨e4.pk [0,1],fN hX d p (Qb c7)⟩
 refine .aq<|.s<|.s<|have eX:a.tx.map Iv.v=b.tx.map Iv.v:=su h1 hX O;.r<|.ld 1 E 0 Y<|.ln 0 (H.r.E E.E) Y<|.V Y<|.lq [0,1,2,3,78,79,124,125,126,165,166] Y (α:=Nat) (λ kr=>[(167,(.I kr))]) (λ kr W=>Sat w E.L W/\(∀ (j:Nat) s t,j<kr->a.rg[j]? =some s->b.rg[j]? =some t->s.v=t.v)) (λ kr=>I a.rg-kr) 0 ⟨E,λ j s t h=>absurd h O⟩ ?_;rintro kr k3 ⟨N,hR⟩;refine .W Y<|.ab Y (λ c8=>?_) λ c8=>?_
 ·refine .q<|.s ?_;obtain⟨x,d⟩:=ut a.rg kr c8;obtain⟨y,p⟩:=ut b.rg kr O;have e2:=D.rr x (a8 d);refine .r<|.ix 1 (H.r.E N.E) Y<|.lg 0 (H.r.E N.E) d Y<|.al 0 N Y λ b5 _ b7 _ _=>have b7:=b7.nn;.sa 1 b7 2 Y ((aL).one _) λ _ a2 _=>.j<|.h<|.ld 1 a2 1 Y<|.ix 1 (A.r.E a2.E) Y<|.lg 0 (A.r.E a2.E) p Y<|.al 0 a2 Y λ b6 _ i3 _ _=>.sa 0 i3 3 Y ((aL).one _) λ _ k _=>have k:=k.nn;.j<|.s<|.md [0,1,2,3,10,11,12,78,79,124,125,126,165,166,167] Y (λ K L' W=>Weak ([(203,(.bool (decide ((((x.nm≠y.nm)\/((x.b:Int)≠(y.b:Int)))\/((x.e:Int)≠(y.e:Int)))\/(¬ (x.ps=y.ps))))))]++K) L'/\Sat w k.L W) ?_ ?_
  ·refine .r<|.ld 1 k 2 Y<|.ld 1 k 3 Y<|.e Y (.ej Y Y)<|.z 1 Y<|.B 182 Y (λ Q=>?_) λ Q=>?_
   ·exact .Z Y ⟨⟨If some (If Value.bool a3J),Y,Y,Y,Y,Y,Y,Y,Y,Y,Y,Y,Y,Y,Y,Y,trivial⟩,k⟩
   refine .ld 1 k 2 Y<|.ld 1 k 3 Y<|.a 0 Y (.neq Y Y)<|.z 2 Y<|.B 189 Y (λ a0=>?_) λ a0=>?_
   ·exact .Z Y ⟨⟨If some (If Value.bool (by simp[Q,a0])),Y,Y,Y,Y,Y,Y,Y,Y,Y,Y,Y,Y,Y,Y,Y,trivial⟩,k⟩
   refine .ld 1 k 2 Y<|.ld 1 k 3 Y<|.a 0 Y (.neq Y Y)<|.z 2 Y<|.B 196 Y (λ a6=>?_) λ a6=>?_
   ·exact .Z Y ⟨⟨If some (If Value.bool (by simp[Q,a0,a6])),Y,Y,Y,Y,Y,Y,Y,Y,Y,Y,Y,Y,Y,Y,Y,trivial⟩,k⟩
   exact .ld 1 k 2 Y<|.ld 1 k 3 Y<|.cp 0 k (wy _ _ x.ps y.ps _ ((H.rr x (a8 d)).E k.E) ((A.rr y (a8 p)).E k.E) O) Y λ _ i4=>.a 0 Y (.oG Y)<|.Z Y ⟨⟨If some (If Value.bool (by simp[Q,a0,a6])),Y,Y,Y,Y,Y,Y,Y,Y,Y,Y,Y,Y,Y,Y,Y,trivial⟩,i4⟩
  rintro L' k4 ⟨h9,e5⟩;refine .weaken _ h9<|.ab Y (λ c9=>?_) λ c9=>?_
  ·exact .Z Y<|.ax Y Y ⟨false,Y,ZZ bl (λ e=>Qa c9 (kM (If oL.rg e) d p)),e5.pk []⟩
  exact .k<|.U Y<|aP (kr+1) ⟨e5.pk [0,1],fN hR d p (Qb c9)⟩
 refine .aq<|.s<|.s<|have eR:a.rg.map Iv.v=b.rg.map Iv.v:=su h2 hR O;.r<|.ld 1 N 0 Y<|.ln 0 (H.n.E N.E) Y<|.V Y<|.lq [0,1,2,3,78,79,124,125,126,165,166,167,207] Y (α:=Nat) (λ kn=>[(208,(.I kn))]) (λ kn W=>Sat w N.L W/\(∀ (j:Nat) s t,j<kn->a.nd[j]? =some s->b.nd[j]? =some t->s=t)) (λ kn=>I a.nd-kn) 0 ⟨N,λ j s t h=>absurd h O⟩ ?_;rintro kn k5 ⟨R,hN⟩;refine .W Y<|.ab Y (λ c0=>?_) λ c0=>?_
 ·refine .q<|.s ?_;obtain⟨x,d⟩:=ut a.nd kn c0;obtain⟨y,p⟩:=ut b.nd kn O;refine .U Y<|.s<|.dk [0,1] R Y (pl [0,1,2,3,4,5,6,7,8,9,10] .fin) λ e6 S3=>.ld 1 S3 0 Y<|.ix 1 S3 (H.n.E ·.E) Y<|.lg 0 S3 (H.n.E ·.E) d Y<|.ld 1 S3 1 Y<|.ix 1 S3 (A.n.E ·.E) Y<|.lg 0 S3 (A.n.E ·.E) p Y<|.e Y (λ _ hS=>.U0 (a:=x) (b:=y) RJ N5 Y Y) S3<|.fin<|.ab Y (λ a3=>?_) λ a3=>?_
  ·exact .Z Y<|.ax Y Y ⟨false,Y,ZZ bl (λ e=>a3 (get_eq (If oL.nd e) d p)),e6.pk []⟩
  exact .k<|.U Y<|aP (kn+1) ⟨e6,fN hN d p (Y3.1 a3)⟩
 refine .aq<|.s<|.s<|have eN:a.nd=b.nd:=mN h3 hN O;.r<|.ld 1 R 0 Y<|.ln 0 (H.h.E R.E) Y<|.V Y<|.lq [0,1,2,3,78,79,124,125,126,165,166,167,207,208,225] Y (α:=Nat) (λ kh=>[(226,(.I kh))]) (λ kh W=>Sat w R.L W/\(∀ (j:Nat) s t,j<kh->a.hd[j]? =some s->b.hd[j]? =some t->s=t)) (λ kh=>I a.hd-kh) 0 ⟨R,λ j s t h=>absurd h O⟩ ?_;rintro kh k9 ⟨T,hH⟩;refine .W Y<|.ab Y (λ e0=>?_) λ e0=>?_
 ·refine .q<|.s ?_;obtain⟨x,d⟩:=ut a.hd kh e0;obtain⟨y,p⟩:=ut b.hd kh O;refine .U Y<|.s<|.dk [0,1] T Y (pl [0,1,2,3,4,5,6,7,8,9,10] .fin) λ e7 S4=>.ld 1 S4 0 Y<|.ix 1 S4 (H.h.E ·.E) Y<|.le 0 S4 (H.h.E ·.E) d Y<|.ld 1 S4 1 Y<|.ix 1 S4 (A.h.E ·.E) Y<|.le 0 S4 (A.h.E ·.E) p Y<|.e Y (λ _ hS=>.neq Y Y) S4<|.fin<|.ab Y (λ a4=>?_) λ a4=>?_
  ·exact .Z Y<|.ax Y Y ⟨false,Y,ZZ bl (λ e=>a4 (get_eq (If oL.hd e) d p)),e7.pk []⟩
  exact .k<|.U Y<|aP (kh+1) ⟨e7,fN hH d p (Y3.1 a4)⟩
 refine .aq<|.s<|.s<|have eH:a.hd=b.hd:=mN h4 hH O;.r<|.ld 1 T 0 Y<|.ln 0 (H.l.E T.E) Y<|.V Y<|.lq [0,1,2,3,78,79,124,125,126,165,166,167,207,208,225,226,243] Y (α:=Nat) (λ kl=>[(244,(.I kl))]) (λ kl W=>Sat w T.L W/\(∀ (j:Nat) s t,j<kl->a.rl[j]? =some s->b.rl[j]? =some t->s=t)) (λ kl=>I a.rl-kl) 0 ⟨T,λ j s t h=>absurd h O⟩ ?_;rintro kl l2 ⟨e8,hL⟩;refine .W Y<|.ab Y (λ e1=>?_) λ e1=>?_
 ·refine .q<|.s ?_;obtain⟨x,d⟩:=ut a.rl kl e1;obtain⟨y,p⟩:=ut b.rl kl O;refine .U Y<|.s<|.dk [0,1] e8 Y (pl [0,1,2,3,4,5,6,7,8,9,10] .fin) λ g0 S5=>.ld 1 S5 0 Y<|.ix 1 S5 (H.l.E ·.E) Y<|.le 0 S5 (H.l.E ·.E) d Y<|.ld 1 S5 1 Y<|.ix 1 S5 (A.l.E ·.E) Y<|.le 0 S5 (A.l.E ·.E) p Y<|.e Y (λ _ hS=>.ej Y Y) S5<|.fin<|.ab Y (λ a5=>?_) λ a5=>?_
  ·exact .Z Y<|.ax Y Y ⟨false,Y,ZZ bl (λ e=>a5 (get_eq (If oL.rl e) d p)),g0.pk []⟩
  exact .k<|.U Y<|aP (kl+1) ⟨g0,fN hL d p (Y3.1 a5)⟩
 exact .aq<|.Z Y<|.ax Y Y ⟨true,Y,iff_of_true Y (show oL.mk _ _ _ _ _ _ _=_ by rw[eA,eT,eX,eR,eN,eH,mN h5 hL O]<;>rfl),e8.pk []⟩
def G2(v:Value)(l:List (ByteArray×Bool))(w:World)(d:RdL w v cj l)(h:atsOk l):
  CallsV prog 45 [v] w λ r W=>r= .tuple #[.I ((0:Nat):Int),.I ((0:Nat):Int)]/\Sat w [] W:=by
 have K:=h.2;have H:=Sat.start w;refine aa func45 Y Y<|.W Y<|.h<|.ln 1 (d.E H.E) Y<|.Z Y<|.ak Y (IN O)<|.p<|.h<|.ln 1 (d.E H.E) Y<|.Z Y<|.ak Y (IN O)<|.p<|.h<|.ln 1 (d.E H.E) Y<|.V Y<|.lq [0,14,15] Y (α:=Nat) (λ k=>[(16,(.I k))]) (λ k W=>Sat w [] W) (λ k=>I l-k) 0 H ?_;rintro k X g;refine .W Y<|.ab Y (λ t=>?_) λ t=>?_
 ·refine .q<|.s ?_;obtain⟨x,p⟩:=ut l k t;refine .r<|.ix 1 (d.E g.E) Y<|.lg 0 (d.E g.E) p Y<|.al 0 g Y λ R _ P _ _=>.sa 1 P 0 Y ((cj).one _) λ _ D _=>.j<|.s<|.h<|.ld 1 D 0 Y<|.cq 0 D (eI x.1 _) Y λ _ i=>.e Y (.cK Y)<|.j<|.ak Y (by simp[(h.1 k x p).1])<|.k<|.h<|.a 2 Y (.bg (E:=cj) (a:=0) (c:=k) HL Y (d.E i.E) Y ⟨_,Y⟩ (KD _) O)<|.ln 0 ((d.E i.E).sub (a:=0) (b:=k) (KD _) O) Y<|.V Y<|.lq [0,4,5,14,15,16,28,29] Y (α:=Nat) (λ j=>[(30,(.I j))]) (λ j W=>Sat w i.L W) (λ j=>I (ww 0 (J k l))-j) 0 i ?_;rintro j w5 o;refine .W Y<|.ab Y (λ u=>?_) λ u=>?_
  ·refine .q<|.s ?_;obtain⟨y,A⟩:=ut (ww 0 (J k l)) j u;have N:I (ww 0 (J k l))<=8:=by simp;omega
   exact .r<|.ix 0 ((d.E o.E).sub (a:=0) (b:=k) (KD _) O) Y<|.lg 0 ((d.E o.E).sub (a:=0) (b:=k) (KD _) O) A Y<|.al 0 o Y λ T _ Q _ _=>.sa 0 Q 1 Y ((cj).one _) λ _ q _=>.j<|.h<|.ld 1 q 0 Y<|.ld 1 q 1 Y<|.e Y (.cN Y Y)<|.j<|.ak Y (IN (λ e=>Sg h p A e.symm))<|.k<|.U Y<|aP (j+1) (q.pk [0])
  exact .aq<|.U Y<|aP (k+1) (o.pk [])
 exact .aq<|.Z Y<|.bK Y Y Y ⟨Y,g.pk []⟩
def Cg(c:Co)(n:Nat)(w:World)(H:RdC w c)(o:OkC n c)(hn:n<=4):
  CallsV prog 46 [(.agg #[c.va,c.vt,c.vx,c.vr,c.vn,c.vh,c.vl])] w λ r W=>r= .tuple #[.I ((0:Nat):Int),.I ((0:Nat):Int)]/\Sat w [] W:=by
 have N:=o.ntk;have Q:=o.ntx;have K:=o.nrg;have E:=o.nnd;have D:=o.at_.2;have p:=Sat.start w;refine aa func46 Y Y<|.h<|.bx 0 p Y λ b1 _ l _ _=>.W Y<|.h<|.ld 1 l 0 Y<|.ln 0 (H.t.E l.E) Y<|.Z Y<|.ak Y (IN O)<|.p<|.h<|.ld 1 l 0 Y<|.ln 0 (H.t.E l.E) Y<|.V Y<|.lq [0,1,14,15] Y (α:=Nat) (λ k=>[(16,(.I k))]) (λ k W=>Sat w l.L W) (λ k=>I c.tk-k) 0 l ?_;rintro k T d;refine .W Y<|.ab Y (λ q=>?_) λ q=>?_
 ·refine .q<|.s ?_;obtain⟨x,g⟩:=ut c.tk k q;have P:=(o.tk x (a8 g)).1;refine .r<|.ix 1 (H.t.E d.E) Y<|.le 0 (H.t.E d.E) g Y<|.W Y<|.h<|.ln 1 ((H.tr _ (a8 g)).E d.E) Y<|.ld 1 d 0 Y<|.ln 0 (H.a.E d.E) Y<|.Z Y<|.ak Y (IN (λ h=>h (o.tk x (a8 g)).1))<|.k<|.h<|.ln 1 ((H.tr _ (a8 g)).E d.E) Y<|.V Y<|.lq [0,1,4,5,14,15,16,28,29] Y (α:=Nat) (λ j=>[(30,(.I j))]) (λ j W=>Sat w d.L W) (λ j=>I x.ns-j) 0 d ?_;rintro j X i;refine .W Y<|.ab Y (λ u=>?_) λ u=>?_
  ·refine .q<|.s ?_;obtain⟨v,A⟩:=ut x.ns j u;obtain⟨a,y⟩:=ut c.at_ j O;exact .r<|.ix 1 ((H.tr _ (a8 g)).E i.E) Y<|.le 0 ((H.tr _ (a8 g)).E i.E) A Y<|.Z Y<|.h<|.ld 1 i 0 Y<|.ix 1 (H.a.E i.E) Y<|.lg 0 (H.a.E i.E) y Y<|.cp 1 i (Cj a v _ ((o.tk x (a8 g)).2 j v a A y)) Y λ _ R=>.Z Y<|.Z Y<|.ak Y Y<|.k<|.U Y<|aP (j+1) R
  exact .aq<|.U Y<|aP (k+1) i
 exact .aq<|.Z Y<|.bK Y Y Y ⟨Y,d.pk []⟩
def G3(c:Co)(n:Nat)(w:World)(H:RdC w c)(o:OkC n c)(hn:n<=4):
  CallsV prog 47 [(.agg #[c.va,c.vt,c.vx,c.vr,c.vn,c.vh,c.vl])] w λ r W=>r= .tuple #[.I ((0:Nat):Int),.I ((0:Nat):Int)]/\Sat w [] W:=by
 have a5:=o.ntk;have a6:=o.ntx;have a4:=o.nrg;have a3:=o.nnd;have a1:=o.at_.2;have a0:=Sat.start w;refine aa func47 Y Y<|.h<|.bx 0 a0 Y λ b1 _ g _ _=>.Z Y<|.h<|.ld 1 g 0 Y<|.ln 0 (H.t.E g.E) Y<|.W Y<|.h<|.ld 1 g 0 Y<|.ln 0 (H.x.E g.E) Y<|.Z Y<|.ak Y (IN O)<|.p<|.h<|.ld 1 g 0 Y<|.ln 0 (H.x.E g.E) Y<|.a 3 Y (.W4 underlying4 Y Y)<|.j<|.ak Y o.tx.lens<|.k<|.W Y<|.h<|.ld 1 g 0 Y<|.ln 0 (H.x.E g.E) Y<|.V Y<|.lq [0,1,4,26,27] Y (α:=Nat×Int) (λ(k,l)=>[(5,(.I l)),(28,(.I k))]) (λ(k,l) W=>Sat w g.L W/\(∀ x,c.tx[k]? =some x->x.b=l)) (λ(k,l)=>I c.tx-k) (0,0) ⟨g,o.tx.first⟩ ?_;rintro⟨k,l⟩ a9 ⟨Q,X⟩;refine .W Y<|.ab Y (λ c1=>?_) λ c1=>?_
 ·refine .q<|.s ?_;obtain⟨x,i⟩:=ut c.tx k c1;have u:=o.tx.nm x (a8 i);refine .r<|.ix 1 (H.x.E Q.E) Y<|.lg 0 (H.x.E Q.E) i Y<|.al 0 Q Y λ b2 _ s3 _ _=>.sa 1 s3 1 Y ((aL).one _) λ _ R _=>?_;have R:=R.nn;refine .j<|.s<|.h<|.ld 1 R 1 Y<|.cp 0 R (eI x.nm _) Y λ _ K=>.e Y (.cK Y)<|.j<|.ak Y (by simp[u.1])<|.p<|.h<|.ld 1 K 0 Y<|.a 1 Y (.bg (E:=aL) (a:=0) (c:=k) wm Y (H.x.E K.E) Y ⟨_,Y⟩ (KD _) O)<|.ln 0 ((H.x.E K.E).sub (a:=0) (b:=k) (KD _) O) Y<|.V Y<|.lq [0,1,4,5,6,7,26,27,28,41,42] Y (α:=Nat) (λ j=>[(43,(.I j))]) (λ j W=>Sat w K.L W) (λ j=>I (ww 0 (J k c.tx))-j) 0 K ?_;rintro j w6 d;refine .W Y<|.ab Y (λ c2=>?_) λ c2=>?_
  ·refine .q<|.s ?_;obtain⟨y,A⟩:=ut (ww 0 (J k c.tx)) j c2;have a2:I (ww 0 (J k c.tx))<=3:=by simp;omega
   exact .r<|.ix 0 ((H.x.E d.E).sub (a:=0) (b:=k) (KD _) O) Y<|.lg 0 ((H.x.E d.E).sub (a:=0) (b:=k) (KD _) O) A Y<|.al 0 d Y λ b3 _ s7 _ _=>.sa 0 s7 2 Y ((aL).one _) λ _ N _=>have N:=N.nn;.j<|.h<|.ld 1 N 2 Y<|.ld 1 N 1 Y<|.e Y (.cN Y Y)<|.j<|.ak Y (IN (o.tx.nd k j x y i (um A).2 (um A).1))<|.k<|.U Y<|aP (j+1) (N.pk [0,1])
  refine .aq<|.s<|.s<|.bM 84 (((((x.b:Int)≠(l:Int))\/((x.e:Int)<=(x.b:Int)))\/(((I c.tk:Nat):Int)<(x.e:Int)))\/((k=(I c.tx-1))/\((x.e:Int)≠((I c.tk:Nat):Int)))) ?_ ?_
  ·refine .ld 1 d 1 Y<|.a 1 Y (.neq Y Y)<|.z 1 Y<|.B 58 Y (λ p=>?_) λ p=>?_
   ·refine .M Y a0P
   refine .ld 1 d 1 Y<|.ld 1 d 1 Y<|.a 0 Y (.leq Y Y)<|.z 2 Y<|.B 65 Y (λ q=>?_) λ q=>?_
   ·refine .M Y (by simp[p,q])
   refine .ld 1 d 1 Y<|.a 1 Y (.gtr Y Y)<|.z 2 Y<|.B 71 Y (λ P=>?_) λ P=>?_
   ·refine .M Y (by simp[p,q,P])
   refine .ld 2 d 0 Y<|.ln 0 (H.x.E d.E) Y<|.z 3 Y<|.B 78 Y (λ T=>?_) λ T=>?_
   ·refine .ld 1 d 1 Y<|.a 1 Y (.neq Y Y)<|.M Y (by simp[p,q,P,T])
   refine .M Y (by simp[p,q,P,T])
  exact .ak Y (IN (λ h=>h.elim (λ h=>h.elim (λ h=>h.elim (λ h=>h (X x i)) (λ h=>by omega)) (λ h=>by omega)) (λ h=>h.2 (o.tx.last k x i O))))<|.p<|.h<|.ld 1 d 1 Y<|.cp 0 d (wC _ x.ps _ ((H.xr _ (a8 i)).E d.E) u.2.1) Y λ _ D=>.Z Y<|.Z Y<|.ak Y Y<|.k<|.r<|.ld 1 D 1 Y<|.Z Y<|.U Y<|aP (k+1,x.e) ⟨D.pk [0],λ y A=>o.tx.next k x y i A⟩
 exact .aq<|.Z Y<|.bK Y Y Y ⟨Y,Q.pk []⟩
def wz(c:Co)(b e:Int)(w:World)(q:RdC w c)(n:Nat)(R:OkC n c)(hn:n<=4)(H:inT c.tx b e):
  CallsV prog 90 [(.agg #[c.va,c.vt,c.vx,c.vr,c.vn,c.vh,c.vl]),(.I b),(.I e)] w λ r W=>r= .bool true/\Sat w [] W:=by
 have X:=R.ntx;obtain⟨t,T,y,A,D⟩:=H;obtain⟨m,N⟩:=Y9 T;have Q:=(KC.1 N).1;have u:=Sat.start w;refine aa func90 Y Y<|.h<|.bx 0 u Y λ b1 _ i _ _=>.W Y<|.h<|.ld 1 i 0 Y<|.ln 0 (q.x.E i.E) Y<|.V Y<|.lq [0,1,2,3,10,11] Y (α:=Nat) (λ k=>[(12,(.I k))]) (λ k W=>Sat w i.L W/\(∀ (j:Nat) t,j<k->c.tx[j]? =some t->¬ ((t.b<=b/\b<e)/\e<=t.e))) (λ k=>I c.tx-k) 0 ⟨i,λ j t h=>absurd h O⟩ ?_;rintro k a0 ⟨l,o⟩;refine .W Y<|.ab Y (λ E=>?_) λ E=>?_
 ·refine .q<|.s ?_;obtain⟨x,P⟩:=ut c.tx k E;refine .r<|.ix 0 (q.x.E l.E) Y<|.lg 0 (q.x.E l.E) P Y<|.al 0 l Y λ b2 _ s3 _ _=>.sa 0 s3 1 Y ((aL).one _) λ _ d _=>have d:=d.nn;.j<|.s<|.bM 30 ((((x.b:Int)<=(b:Int))/\((b:Int)<(e:Int)))/\((e:Int)<=(x.e:Int))) ?_ ?_
  ·refine .ld 1 d 1 Y<|.a 1 Y (.leq Y Y)<|.z 1 Y<|.B 20 Y (λ g=>?_) λ g=>?_
   ·refine .a 2 Y (.lss Y Y)<|.z 2 Y<|.B 25 Y (λ p=>?_) λ p=>?_
    ·refine .ld 2 d 1 Y<|.a 0 Y (.leq Y Y)<|.M Y (by simp[g,p])
    refine .M Y (by simp[g,p])
   refine .M Y a0G
  refine .ab Y (λ K=>?_) λ K=>?_
  ·exact .Z Y<|.ax Y Y ⟨Y,d.pk []⟩
  exact .k<|.U Y<|aP (k+1) ⟨d.pk [0],ka o P K⟩
 exact .aq<|.Z Y<|.ax Y Y<|have s7:=l.pk [];absurd ⟨⟨y,A⟩,D⟩ (o m t O N)
def zF(c:Co)(n:Nat)(w:World)(H:RdC w c)(q:OkC n c)(hn:n<=4):
  CallsV prog 48 [(.agg #[c.va,c.vt,c.vx,c.vr,c.vn,c.vh,c.vl])] w λ r W=>r= .tuple #[.I ((0:Nat):Int),.I ((0:Nat):Int)]/\Sat w [] W:=by
 have b6:=q.ntk;have b7:=q.ntx;have b5:=q.nrg;have b4:=q.nnd;have a4:=q.at_.2;have a0:=Sat.start w;refine aa func48 Y Y<|.h<|.bx 0 a0 Y λ b1 _ X _ _=>.W Y<|.h<|.ld 1 X 0 Y<|.ln 0 (H.r.E X.E) Y<|.Z Y<|.ak Y (IN O)<|.p<|.h<|.ld 1 X 0 Y<|.ln 0 (H.r.E X.E) Y<|.V Y<|.lq [0,1,15,16] Y (α:=Nat) (λ k=>[(17,(.I k))]) (λ k W=>Sat w X.L W) (λ k=>I c.rg-k) 0 X ?_;rintro k c5 s2;refine .W Y<|.ab Y (λ c1=>?_) λ c1=>?_
 ·refine .q<|.s ?_;obtain⟨x,R⟩:=ut c.rg k c1;have u:=q.rg.el x (a8 R);refine .r<|.ix 1 (H.r.E s2.E) Y<|.lg 0 (H.r.E s2.E) R Y<|.al 0 s2 Y λ b2 _ s3 _ _=>.sa 1 s3 1 Y ((aL).one _) λ _ s4 _=>have s4:=s4.nn;.j<|.s<|.l<|.h<|.ld 1 s4 1 Y<|.cp 0 s4 (eI x.nm _) Y λ _ s5=>.e Y (.cK Y)<|.Z Y<|.ak Y (by simp[u.1])<|.h<|.lo 0 s5 0 Y<|.ld 1 s5 1 Y<|.ld 1 s5 1 Y<|.cp 0 s5 (wz c x.b x.e _ (H.E s5.E) _ q hn u.2.1) Y λ _ s6=>.Z Y<|.ak Y Y<|.p<|.h<|.ld 1 s6 1 Y<|.cq 0 s6 (wC _ x.ps _ ((H.rr _ (a8 R)).E s6.E) u.2.2) Y λ _ s7=>.Z Y<|.Z Y<|.ak Y Y<|.p<|.s ?_;obtain⟨y,hy⟩:=sj R;refine .md [0,1,4,5,6,15,16,17] Y (λ K L' W=>Weak ([(56,(.bool (decide ((0<k)/\((0:Int)<((fk y x):Int))))))]++K) L'/\Sat w s7.L W) ?_ ?_
  ·refine .dk [0,1] s7 Y (pl [0,1,2,3,4,5,6,7,8,9,1010,11,12] .fin) λ s8 N=>.z 3 N Y<|.B 46 Y (λ g1=>?_) λ g1=>?_
   ·refine .ld 1 N 0 Y<|.ix 2 N (H.r.E ·.E) Y<|.lg 0 N (H.r.E ·.E) (hy O) Y<|.a 0 N Y (λ _ s=>.dV BS Y s (i:=1) Y Y)<|.c 0 N (zH y x _ ((H.rr _ (a8 (hy O))).E s8.E) ((H.rr _ (a8 R)).E s8.E) (by have:=(q.rg.el y (a8 (hy O))).2.2.1;omega) (by have:=u.2.2.1;omega)) Y ?_;rintro _ _ ⟨rfl,p4⟩;have s9:=s8.ay p4;have S2:=s9.pk [0,1];refine⟨S2,?_⟩;exact .a 0 S2 Y (λ _ s=>.gtr Y Y)<|.Z S2 Y ⟨⟨If some (If Value.bool sp),Y,Y,Y,Y,Y,Y,Y,Y,trivial⟩,s9⟩
   exact .Z N Y ⟨⟨If some (If Value.bool sp),Y,Y,Y,Y,Y,Y,Y,Y,trivial⟩,s8⟩
  rintro L' w9 ⟨a1,o⟩;refine .weaken _ a1<|.ak Y (IN (λ h=>by have:=q.rg.asc (k-1) y x (hy h.1) (by rw[show k-1+1=k by omega];exact R);omega))<|.k<|.W Y<|.h<|.ld 1 o 0 Y<|.a 2 Y (.bg (E:=aL) (a:=0) (c:=(k+1)) rq Y (H.r.E o.E) Y ⟨_,Y⟩ (KD _) O)<|.ln 0 ((H.r.E o.E).sub (a:=0) (b:=(k+1)) (KD _) O) Y<|.V Y ?_;have a6:I (ww 0 (J (k+1) c.rg))<=32:=by simp;omega
  refine .lq [0,1,4,5,6,15,16,17,62,63] Y (α:=Nat×Nat) (λ(j,d)=>[(7,(.I d)),(64,(.I j))]) (λ(j,d) W=>Sat w o.L W/\(d<=j)/\(j<=I (ww 0 (J (k+1) c.rg)))) (λ(j,d)=>I (ww 0 (J (k+1) c.rg))-j) (0,0) ⟨o,KM _,KD _⟩ ?_;rintro⟨j,d⟩ c0 ⟨A,hd,a9⟩;refine .W Y<|.ab Y (λ c2=>?_) λ c2=>?_
  ·refine .q<|.s ?_;obtain⟨z,hz⟩:=ut (ww 0 (J (k+1) c.rg)) j c2;refine .r<|.ix 1 ((H.r.E A.E).sub (a:=0) (b:=(k+1)) (KD _) O) Y<|.lg 0 ((H.r.E A.E).sub (a:=0) (b:=(k+1)) (KD _) O) hz Y<|.al 0 A Y λ b3 _ a3 _ _=>.sa 1 a3 2 Y ((aL).one _) λ _ l _=>.j<|.jn [0,1,4,5,6,8,9,15,16,17,62,63,64] Y (λ K L' W=>∃ (d2:Nat),Weak ([(7,(.I d2))]++K) L'/\Sat w l.L W/\(d2<=j+1)) ?_ ?_
   ·refine .s<|.bM 80 (((z.b:Int)<=(x.b:Int))/\((x.b:Int)<(z.e:Int))) ?_ ?_
    ·refine .ld 1 l 2 Y<|.ld 1 l 1 Y<|.e Y (.leq Y Y)<|.z 1 Y<|.B 74 Y (λ g2=>?_) λ g2=>?_
     ·refine .ld 1 l 1 Y<|.ld 1 l 2 Y<|.a 0 Y (.lss Y Y)<|.M Y a1J
     refine .M Y a1J
    refine .ab Y (λ c3=>?_) λ c3=>?_
    ·exact .U Y ⟨(d+1),(wk Y),l,O⟩
    exact .k ⟨d,(wk Y),l,O⟩
   rintro L' c4 ⟨d2,a2,g,a5⟩;refine .weaken _ a2<|.s<|.bM 136 ((((((j<k)/\(z.nm=x.nm))/\((z.b:Int)<(x.e:Int)))/\((x.b:Int)<(z.e:Int)))/\(¬ (((z.b:Int)<=(x.b:Int))/\((x.e:Int)<=(z.e:Int)))))/\(¬ (((x.b:Int)<=(z.b:Int))/\((z.e:Int)<=(x.e:Int))))) ?_ ?_
   ·refine .z 4 Y<|.B 86 Y (λ p=>?_) λ p=>?_
    ·refine .ld 1 g 2 Y<|.ld 1 g 1 Y<|.a 0 Y (.cN Y Y)<|.z 2 Y<|.B 93 Y (λ t=>?_) λ t=>?_
     ·refine .ld 1 g 2 Y<|.ld 1 g 1 Y<|.a 0 Y (.lss Y Y)<|.z 2 Y<|.B 100 Y (λ D=>?_) λ D=>?_
      ·refine .ld 1 g 1 Y<|.ld 1 g 2 Y<|.a 0 Y (.lss Y Y)<|.z 2 Y<|.B 107 Y (λ Q=>?_) λ Q=>?_
       ·refine .ld 1 g 2 Y<|.ld 1 g 1 Y<|.a 0 Y (.leq Y Y)<|.z 1 Y<|.B 113 Y (λ T=>?_) λ T=>?_
        ·refine .ld 1 g 1 Y<|.ld 1 g 2 Y<|.a 0 Y (.leq Y Y)<|.a 1 Y (.oG Y)<|.z 2 Y<|.B 122 Y (λ g8=>?_) λ g8=>?_
         ·refine .ld 1 g 1 Y<|.ld 1 g 2 Y<|.a 0 Y (.leq Y Y)<|.z 1 Y<|.B 128 Y (λ g9=>?_) λ g9=>?_
          ·refine .ld 1 g 2 Y<|.ld 1 g 1 Y<|.a 0 Y (.leq Y Y)<|.a 1 Y (.oG Y)<|.M Y (by simp[p,t,D,Q,T,g8,g9])
          refine .M Y (by simp[p,t,D,Q,T,g8,g9])
         refine .M Y (by simp[p,t,D,Q,T,g8])
        refine .ld 10 g 1 Y<|.ld 1 g 2 Y<|.a 0 Y (.leq Y Y)<|.z 1 Y<|.B 128 Y (λ P=>?_) λ P=>?_
        ·refine .ld 1 g 2 Y<|.ld 1 g 1 Y<|.a 0 Y (.leq Y Y)<|.a 1 Y (.oG Y)<|.M Y (by simp[P,p,t,D,Q,T])
        refine .M Y (by simp[P,p,t,D,Q,T])
       refine .M Y (by simp[p,t,D,Q])
      refine .M Y (by simp[p,t,D])
     refine .M Y (by simp[p,t])
    refine .M Y a0P
   exact .ak Y (IN (λ h=>q.rg.nox z (a8 (um hz).2) x (a8 R) h.1.1.1.1.2 ⟨h.1.1.1.2,h.1.1.2,h.1.2,h.2⟩))<|.k<|.U Y<|aP (j+1,d2) ⟨g.pk [0,1],O,O⟩
  exact .aq<|.Z Y<|.ak Y (IN O)<|.k<|.U Y<|aP (k+1) (A.pk [0])
 exact .aq<|.Z Y<|.bK Y Y Y ⟨Y,s2.pk []⟩
def G4(c:Co)(n:Nat)(w:World)(H:RdC w c)(o:OkC n c)(hn:n<=4):
  CallsV prog 49 [c.vn,(.agg #[c.va,c.vt,c.vx,c.vr,c.vn,c.vh,c.vl])] w λ r W=>r= .tuple #[.I ((0:Nat):Int),.I ((0:Nat):Int)]/\Sat w [] W:=by
 have e1:=o.ntk;have e2:=o.ntx;have e0:=o.nrg;have c9:=o.nnd;have c0:=o.at_.2;have a9:=Sat.start w;refine aa func49 Y Y<|.h<|.bx 0 a9 Y λ b1 _ s1 _ _=>.W Y<|.h<|.ln 1 (H.n.E s1.E) Y<|.Z Y<|.ak Y (IN O)<|.k<|.h<|.ln 1 (H.n.E s1.E) Y<|.f Y (.df un 0 bc Y s1 Y Y O O O λ v1 _ s2 _=>.W Y<|.h<|.ln 1 (H.n.E s2.E) Y<|.V Y<|.lq [0,1,3,18,19] Y (α:=Nat×Value×List Nat) (λ(k,N,dp)=>[(6,N),(20,(.I k))]) (λ(k,N,dp) W=>Sat w (s2.U [(1,cL N 3 un dp)]) W/\(I dp=I c.nd)/\(∀ (q:Nat) d,dp[q]? =some d->d<=q+1/\(k<=q->d=0))) (λ(k,N,dp)=>I c.nd-k) (0,v1,List.replicate (I c.nd) 0) ⟨s2,bw,(λ q z h=>by rw[Z1]at h;split at h;cases h;omega;cases h)⟩ ?_);rintro⟨k,N,dp⟩ g0 ⟨s3,a0,l⟩;refine .W Y<|.ab Y (λ c1=>?_) λ c1=>?_
 ·refine .q<|.s ?_;obtain⟨x,hx⟩:=ut c.nd k c1;have a2:=o.nd.el x (a8 hx);have a3:=o.nd.par k x hx;have e3:=a3.imp_right (·.1);refine .r<|.ix 1 (H.n.E s3.E) Y<|.lg 0 (H.n.E s3.E) hx Y<|.al 0 s3 Y λ b2 _ s4 _ _=>have s4:=s4.nn;.sa 1 s4 2 Y ((bT).one _) λ _ s5 _=>.j<|.s<|.l<|.h<|.ld 1 s5 2 Y<|.cp 0 s5 (eI x.nm _) Y λ _ s6=>.e Y (.cK Y)<|.Z Y<|.ak Y (by simp[a2.1])<|.h<|.lo 0 s6 0 Y<|.ld 1 s6 2 Y<|.ld 1 s6 2 Y<|.cq 0 s6 (wz c x.b x.e _ (H.E s6.E) _ o hn a2.2) Y λ _ s7=>.Z Y<|.ak Y Y<|.k<|.h<|.a 1 Y (.sub (b:=(1:Int)) Y Y en)<|.W Y<|.l<|.lq [0,1,3,6,7,8,18,19,20] Y (α:=Int) (λ z=>[(9,(.I z))]) (λ z W=>Sat w s7.L W/\(-1<=z/\z<(I c.nd:Int))/\(x.p= -1\/z=x.p)) (λ z=>(z+1).toNat) (((k:Nat):Int)-1) ⟨s7,O,O⟩ ?_;rintro z g4 ⟨i,hz,e6⟩;refine .s<|.s<|.bM 49 (((0:Int)<=(z:Int))/\((z:Int)≠(x.p:Int))) ?_ ?_
  ·refine .a 1 Y (.geq Y Y)<|.z 1 Y<|.B 44 Y (λ g1=>?_) λ g1=>?_
   ·refine .ld 2 i 2 Y<|.a 0 Y (.neq Y Y)<|.M Y sp
   refine .M Y sp
  refine .ab Y (λ c2=>?_) λ c2=>?_
  ·refine .k<|.l ?_;obtain⟨y,t⟩:=ut c.nd z.toNat O;have e5:=(o.nd.par _ y t).imp_right (·.1);exact .r<|.a 2 Y (.ik (j:=z.toNat) (E:=bT) jS Y (il (z:=z) (n:=z.toNat) O) (H.n.E i.E) O)<|.fl 0 (H.n.E i.E) Y<|.lf 0 (H.n.E i.E) t Y<|.Z Y<|aP y.p ⟨i,O,O⟩
  refine .aq<|.s<|.s<|.bM 61 (((z:Int)<(0:Int))/\((x.p:Int)≠(-1:Int))) ?_ ?_
  ·refine .a 1 Y (.lss Y Y)<|.z 1 Y<|.B 57 Y (λ g2=>?_) λ g2=>?_
   ·refine .ld 1 i 2 Y<|.a 0 Y (.neq Y Y)<|.M Y a1J
   refine .M Y a1J
  refine .ak Y (IN O)<|.k<|.jn [0,1,3,6,7,8,18,19,20] Y (λ K L' W=>∃ (D:List Nat),Weak K L'/\Sat w (i.U [(1,cL N 3 un D)]) W/\(I D=I c.nd)/\((∀ (q:Nat) d,D[q]? =some d->q≠k->d<=q+1/\(k<=q->d=0))/\∀ d,D[k]? =some d->d<=k)) ?_ ?_
  ·refine .h<|.ld 1 i 2 Y<|.e Y (.geq Y Y)<|.j<|.ab Y (λ c3=>?_) λ c3=>?_
   ·refine .s ?_;obtain⟨y,t⟩:=ut c.nd x.p.toNat O;have e4:=(a3.resolve_left O).2.2 y (by rw[show k-1=x.p.toNat by omega];exact t);obtain⟨d,hd⟩:=ut dp x.p.toNat O;have c6:=(l _ d hd).1;refine .r<|.ld 2 i 2 Y<|.e Y (.ik (j:=x.p.toNat) (E:=bT) jS Y (il (z:=x.p) (n:=x.p.toNat) O) (H.n.E i.E) O)<|.lg 0 (H.n.E i.E) t Y<|.al 0 i Y λ b3 _ s9 _ _=>.sa 0 s9 3 Y ((bT).one _) λ _ g _=>.j<|.s<|.s<|.bM 82 (((x.b:Int)<(y.b:Int))\/((y.e:Int)<(x.e:Int))) ?_ ?_
    ·refine .ld 1 g 2 Y<|.ld 1 g 3 Y<|.e Y (.lss Y Y)<|.z 1 Y<|.B 76 Y (λ g3=>?_) λ g3=>?_
     ·refine .M Y a2O
     refine .ld 1 g 2 Y<|.ld 1 g 3 Y<|.a 0 Y (.gtr Y Y)<|.M Y a2O
    exact .ak Y (IN O)<|.k<|.r<|.ld 4 g 2 Y<|.e Y (.ik (j:=x.p.toNat) (E:=a7 .i64) bc Y (il (z:=x.p) (n:=x.p.toNat) O) (g.aj 1 Y) O)<|.le 0 (g.aj 1 Y) hd Y<|.ix 0 (g.aj 1 Y) Y<|.f Y (.dJ (a:=d) 1 dB g Y Y Y Y a1T λ _ P _=>have P:=P.nn;.j ⟨dp.set k d,(wk Y),P.pk [0,1,2],by rw[Xt];exact a0,Kp l O⟩)
   exact .k ⟨dp,(wk Y),i.pk [0,1,2],a0,⟨λ q d h _=>l q d h,λ d h=>by have:=(l k d h).2 (KM _);omega⟩⟩
  rintro L' b7 ⟨D,b4,Q,a1,A⟩;refine .weaken _ b4<|.jn [0,1,3,6,7,8,18,19,20] Y (λ K L' W=>Weak K L'/\Sat w Q.L W) ?_ ?_
  ·refine .h<|.a 1 Y (.sub (b:=(1:Int)) Y Y en)<|.V Y<|.lq [0,1,3,6,7,8,18,19,20] Y (α:=Nat) (λ m=>[(11,(.I (((m:Nat):Int)-1)))]) (λ m W=>Sat w Q.L W/\(m<=k)) (λ m=>m) k ⟨Q,KM _⟩ ?_;rintro m e7 ⟨a4,c8⟩;refine .s<|.h<|.a 1 Y (.geq Y Y)<|.j<|.ab Y (λ c4=>?_) λ c4=>?_
   ·refine .q<|.s ?_;obtain⟨y,t⟩:=ut c.nd (m-1) O;refine .dk [0,1,2] a4 Y (pl [0,1,2,3,4,5,6,7] .fin) λ a5 T=>.z 2 T Y<|.e Y (λ _ s=>.ik (j:=(m-1)) (E:=bT) jS Y (il (z:=(((m:Nat):Int)-1)) (n:=(m-1)) O) (H.n.E s.E) O) T<|.fl 0 T (H.n.E ·.E) Y<|.lf 0 T (H.n.E ·.E) t Y<|.ld 1 T 2 Y<|.e Y (λ _ s=>.eql Y Y) T<|.fin<|.ab Y (λ c5=>?_) λ c5=>?_
    ·exact .s<|.s<|.dk [0,1,2] a5 Y (pl [0,1,2,3,4,5,6,7] .fin) λ b6 X=>.ld 1 X 2 Y<|.z 2 X Y<|.e Y (λ _ s=>.ik (j:=(m-1)) (E:=bT) jS Y (il (z:=(((m:Nat):Int)-1)) (n:=(m-1)) O) (H.n.E s.E) O) X<|.fl 0 X (H.n.E ·.E) Y<|.lf 0 X (H.n.E ·.E) t Y<|.e Y (λ _ s=>.lss Y Y) X<|.fin<|.ak Y (IN (λ h=>by have:=o.nd.sib (m-1) k x y t hx O O;omega))<|.k<|.vF Y ⟨(wk Y),b6⟩
    exact .k<|.r<|.a 1 Y (.sub (b:=(1:Int)) Y Y en)<|.Z Y ⟨m-1,⟨If some (If (Value.I) O),Y,Y,Y,Y,Y,Y,Y,Y,Y,trivial⟩,⟨a5,O⟩,O⟩
   exact .aq ⟨(wk Y),a4⟩
  rintro L' e8 ⟨b5,u⟩;refine .weaken _ b5<|.s ?_;obtain⟨d,hd⟩:=ut D k O;have a6:(D.set k (d+1))[k]? =some (d+1):=Yi O;have c7:=A.2 d hd;exact .r<|.ix 2 (u.aj 1 Y) Y<|.le 0 (u.aj 1 Y) hd Y<|.ix 1 (u.aj 1 Y) Y<|.f Y (.dJ (a:=(d+1)) 1 dB u Y Y Y Y a1T λ _ R _=>.j<|.h<|.ix 2 (R.aj 1 Y) Y (hj:=a2z)<|.le 0 (R.aj 1 Y) a6 Y<|.Z Y<|.ak Y (IN O)<|.k<|.U Y<|aP (k+1,N,D.set k (d+1)) ⟨R.pk [0,1],by rw[Xt];exact a1,Kq A O⟩)
 exact .aq<|.Z Y<|.bK Y Y Y ⟨Y,s3.pk []⟩
def Ie(D vl:Value)(hd:List Int)(l:List ByteArray)(w:World)(q:RdL w D (Kw.encI .i64) hd)(hw:RdL w vl aw l)(K:I hd<=1000)(he:I hd=I l)(E:∃ i:Nat,(∃ h,hd[i]? =some h/\h≠-1)\/∃ s,l[i]? =some s/\s≠wt):
  CallsV prog 91 [D,vl] w λ r W=>r= .bool false/\Sat w [] W:=by
 refine cd func91 Y λ H=>.W Y<|.h<|.ln 1 (q.E H.E) Y<|.V Y<|.lq [0,1,7] Y (α:=Nat) (λ k=>[(8,(.I k))]) (λ k W=>Sat w [] W/\(∀ (j:Nat) t,j<k->hd[j]? =some t->t= -1/\l[j]? =some (ws #[]))) (λ k=>I hd-k) 0 ⟨H,λ j t h=>absurd h O⟩ ?_;rintro k P ⟨d,o⟩;refine .W Y<|.ab Y (λ u=>?_) λ u=>?_
 ·refine .q<|.s ?_;obtain⟨x,A⟩:=ut hd k u;obtain⟨s,g⟩:=ut l k O;refine .U Y<|.s<|.bM 22 (((x:Int)≠(-1:Int))\/(s≠(ws #[]))) ?_ ?_
  ·refine .ix 2 (q.E d.E) Y<|.le 0 (q.E d.E) A Y<|.e Y (.neq Y Y)<|.z 1 Y<|.B 16 Y (λ p=>?_) λ p=>?_
   ·refine .M Y a0P
   refine .ix 2 (hw.E d.E) Y<|.le 0 (hw.E d.E) g Y<|.a 0 Y (.ej Y Y)<|.M Y a0P
  refine .ab Y (λ y=>?_) λ y=>?_
  ·exact .Z Y<|.ax Y Y ⟨Y,d.pk []⟩
  exact .k<|.U Y<|aP (k+1) ⟨d,ka o A ⟨O,a3q⟩⟩
 exact .aq<|.Z Y<|.ax Y Y<|have N:=d.pk [];(UP he o O E).elim
def sY(c:Co)(p:Int)(w:World)(y:RdC w c)(hl:I c.tx<=64)(H:∃ t∈c.tx,t.b<=p/\p<t.e):
  CallsV prog 92 [(.agg #[c.va,c.vt,c.vx,c.vr,c.vn,c.vh,c.vl]),(.I p)] w λ r W=>∃ (i:Nat) (t:Iv),r= .I (i:Int)/\c.tx[i]? =some t/\t.b<=p/\p<t.e/\Sat w [] W:=by
 have A:=Sat.start w;refine aa func92 Y Y<|.h<|.bx 0 A Y λ T _ l _ _=>.W Y<|.h<|.ld 1 l 0 Y<|.ln 0 (y.x.E l.E) Y<|.V Y<|.lq [0,1,2,8,9] Y (α:=Nat) (λ k=>[(10,(.I k))]) (λ k W=>Sat w l.L W/\(∀ (j:Nat) t,j<k->c.tx[j]? =some t->¬ (t.b<=p/\p<t.e))) (λ k=>I c.tx-k) 0 ⟨l,λ j t h=>absurd h O⟩ ?_;rintro k R ⟨q,o⟩;refine .W Y<|.ab Y (λ E=>?_) λ E=>?_
 ·refine .q<|.s ?_;obtain⟨x,D⟩:=ut c.tx k E;refine .r<|.ix 1 (y.x.E q.E) Y<|.lg 0 (y.x.E q.E) D Y<|.al 0 q Y λ X _ Q _ _=>.sa 1 Q 1 Y ((aL).one _) λ _ d _=>have d:=d.nn;.j<|.s<|.bM 24 (((x.b:Int)<=(p:Int))/\((p:Int)<(x.e:Int))) ?_ ?_
  ·refine .ld 1 d 1 Y<|.a 1 Y (.leq Y Y)<|.z 1 Y<|.B 19 Y (λ u=>?_) λ u=>?_
   ·refine .ld 2 d 1 Y<|.a 0 Y (.lss Y Y)<|.M Y a1H
   refine .M Y a1H
  refine .ab Y (λ g=>?_) λ g=>?_
  ·exact .Z Y<|.ax Y Y ⟨k,x,Y,D,g.1,g.2,d.pk []⟩
  exact .k<|.U Y<|aP (k+1) ⟨d.pk [0],ka o D g⟩
 refine .aq<|.Z Y<|.ax Y Y ?_;have s7:=q.pk [];obtain⟨t,P,N⟩:=H;obtain⟨j,K⟩:=Y9 P;exact absurd N (o j t (by have:=(KC.1 K).1;omega) K)
def G5(v:Value)(hd:List Int)(n i:Nat)(w:World)(l:RdL w v (Kw.encI .i64) hd)(K:I hd<=1000)(y:HdF n hd)(D:i<I hd):
  CallsV prog 93 [v,(.I i)] w λ r W=>r= .bool false/\Sat w [] W:=by
 obtain⟨R,H⟩:=y.rk;have g:=Sat.start w;refine aa func93 Y Y<|.Z Y<|.W Y<|.h<|.ln 1 (l.E g.E) Y<|.V Y<|.lq [0,1,8] Y (α:=Nat×Int) (λ(k,z)=>[(5,(.I z)),(9,(.I k))]) (λ(k,z) W=>Sat w [] W/\(0<=z/\z<(I hd:Int))/\(R z.toNat<=R i)) (λ(k,z)=>I hd-k) (0,(i:Int)) ⟨g,O,by rw[Zi];exact KM _⟩ ?_;rintro⟨k,z⟩ P ⟨d,N,A⟩;refine .W Y<|.ab Y (λ q=>?_) λ q=>?_
 ·refine .q<|.s ?_;obtain⟨x,p⟩:=ut hd z.toNat O;refine .r<|.a 2 Y (.ik (j:=z.toNat) (E:=Kw.encI .i64) bc Y (il (z:=z) (n:=z.toNat) O) (l.E d.E) O)<|.le 0 (l.E d.E) p Y<|.W Y<|.s<|.bM 22 (((x:Int)<(0:Int))\/(((I hd:Nat):Int)<=(x:Int))) ?_ ?_
  ·refine .a 1 Y (.lss Y Y)<|.z 1 Y<|.B 17 Y (λ o=>?_) λ o=>?_
   ·refine .M Y a5d
   refine .ln 2 (l.E d.E) Y<|.a 0 Y (.geq Y Y)<|.M Y a5d
  refine .ab Y (λ t=>?_) λ t=>?_
  ·exact .Z Y<|.ax Y Y ⟨Y,d.pk []⟩
  exact .k<|.h<|.a 2 Y (.eql Y Y)<|.j<|.ak Y (IN (λ h=>by have u:=H _ x p O;rw[show x.toNat=i by omega]at u;omega))<|.k<|.U Y<|aP (k+1,x) ⟨d,O,by have:=H _ x p O;omega⟩
 exact .aq<|.Z Y<|.ax Y Y ⟨Y,d.pk []⟩
def G6(c:Co)(n:Nat)(w:World)(H:RdC w c)(o:OkC n c)(hn:n<=4):
  CallsV prog 50 [(.agg #[c.va,c.vt,c.vx,c.vr,c.vn,c.vh,c.vl])] w λ r W=>r= .tuple #[.I ((0:Nat):Int),.I ((0:Nat):Int)]/\Sat w [] W:=by
 have c0:=o.ntk;have c2:=o.ntx;have b7:=o.nrg;have b6:=o.nnd;have b4:=o.at_.2;have X:=o.nK.1;have b5:I c.hd<=48:=by rcases Yv (I c.hd) with q|q;omega;have:=(o.nK.2 q).len.1;omega
 have a1:=Sat.start w;refine aa func50 Y Y<|.h<|.bx 0 a1 Y λ b1 _ d _ _=>.Z Y<|.h<|.ld 1 d 0 Y<|.ln 0 (H.h.E d.E) Y<|.W Y<|.s<|.bM 25 ((I c.hd≠I c.rl)\/((I c.hd≠0)/\(I c.hd≠I c.tk))) ?_ ?_
 ·refine .ld 2 d 0 Y<|.ln 0 (H.l.E d.E) Y<|.z 2 Y<|.B 15 Y (λ g1=>?_) λ g1=>?_
  ·refine .M Y sp
  refine .z 3 Y<|.B 18 Y (λ g2=>?_) λ g2=>?_
  ·refine .ld 2 d 0 Y<|.ln 0 (H.t.E d.E) Y<|.M Y a0X
  refine .M Y a0X
 refine .ak Y (IN (λ h=>h.elim (λ h=>h X) (λ h=>h.2 (o.nK.2 O).len.1)))<|.p<|.s<|.md [0,1,2,3,4] Y (λ K u W=>Weak ([(34,(.bool (decide ((0<I c.hd)/\(False)))))]++K) u/\Sat w d.L W) ?_ ?_
 ·refine .r<|.z 3 Y<|.B 28 Y (λ g3=>?_) λ g3=>?_
  ·exact .ld 1 d 0 Y<|.ld 1 d 0 Y<|.cp 0 d (Ie _ _ c.hd c.rl _ (H.h.E d.E) (H.l.E d.E) O X (o.nK.2 O).bare) Y λ _ s2=>.Z Y ⟨⟨If some (If Value.bool a2O),Y,Y,Y,Y,Y,trivial⟩,s2⟩
  exact .Z Y ⟨⟨If some (If Value.bool a2O),Y,Y,Y,Y,Y,trivial⟩,d⟩
 rintro u c7 ⟨a4,s3⟩;refine .weaken _ a4<|.ak Y (IN (λ h=>h.2))<|.p<|.h<|.ld 1 s3 0 Y<|.ln 0 (H.h.E s3.E) Y<|.V Y<|.lq [0,1,4,36,37] Y (α:=Nat) (λ k=>[(38,(.I k))]) (λ k W=>Sat w s3.L W) (λ k=>I c.hd-k) 0 s3 ?_;rintro k c8 s4;refine .W Y<|.ab Y (λ c1=>?_) λ c1=>?_
 ·refine .q<|.s ?_;obtain⟨x,hx⟩:=ut c.hd k c1;have j:=o.nK.2 O;have a0:=c1;obtain⟨s,E⟩:=ut c.rl k (by have:=j.len;omega);refine .r<|.ix 1 (H.h.E s4.E) Y<|.le 0 (H.h.E s4.E) hx Y<|.W Y<|.s<|.sR (λ u W=>Weak [(0,(.agg #[c.va,c.vt,c.vx,c.vr,c.vn,c.vh,c.vl])),(1,(.P b1)),(4,(.I (I c.hd))),(5,(.I k)),(6,(.I x)),(36,c.vh),(37,(.I (I c.hd))),(38,(.I k)),(62,(.bool false))] u/\Sat w [ai b1 30 [c.va,c.vt,c.vx,c.vr,c.vn,c.vh,c.vl]] W) ?_ ?_
  ·rcases j.el k x hx with a9|⟨t,ht,ht1,ht2,ht3,ht4⟩
   ·exact .dk [0] s4 Y (pl [0,1,2,3,4,5,6,7,8,9,10,11,12,14,15,1013,1016,17,18,19] .fin) λ s5 S1=>.z 1 S1 Y<|.e Y (λ _ D=>.neq Y Y) S1<|.z 1 S1 Y<|.Gf 45 Y (IN (λ h=>h a9))<|.Z S1 Y ⟨(wk Y),s5⟩
   refine .dk [0] s4 Y (pl [0,1,2,3,4,5,6,7,8,9,10,11,12,14,15,1013,1016,17,18,19] .fin) λ s6 g=>.z 1 g Y<|.e Y (λ _ D=>.neq Y Y) g<|.z 1 g Y<|.Gt 45 Y (LW a4z)<|.a 1 g Y (λ _ D=>.lss Y Y)<|.z 1 g Y<|.Gf 48 Y (IN a4z)<|.a 2 g Y (λ _ D=>.geq Y Y)<|.z 2 g Y<|.Gf 53 Y (IN (by have:=(o.tx.nm t ht).2.2;have:=j.len.1;omega))<|.a 0 g Y (λ _ D=>.dV fW Y D (i:=0) Y Y)<|.a 1 g Y (λ _ D=>.dV fW Y D (i:=0) Y Y)<|.c 1 g (sY c x _ (H.E s6.E) O (⟨t,ht,O,O⟩)) Y ?_;rintro _ _ ⟨c3,c5,rfl,y,N,P,p2⟩;have s7:=s6.ay p2;have a2:=(KC.1 y).1;have S3:=s7.pk [0];refine⟨S3,?_⟩;refine .c 0 S3 (sY c ((k:Nat):Int) _ (H.E s7.E) O (⟨t,ht,O,O⟩)) Y ?_;rintro _ _ ⟨c4,c6,rfl,A,Q,R,p3⟩;have s8:=(s7.ay p3).nn;have a3:=(KC.1 A).1;have S4:=s8.pk [0];refine⟨S4,?_⟩;exact .Z S4 Y ⟨⟨Y,Y,Y,Y,Y,Y,Y,Y,If some (If Value.bool (IN (λ h=>h (OA o.tx ht y A ⟨O,O⟩ ⟨O,O⟩ ⟨N,P⟩ ⟨Q,R⟩)))),trivial⟩,s8⟩
  rintro u w7 ⟨a5,p⟩;refine .weaken _ a5<|.ak Y Y<|.p<|.s<|.md [0,1,4,5,6,36,37,38] Y (λ K u W=>Weak ([(78,(.bool (decide ((s≠(ws #[]))/\((!(bF s))=true)))))]++K) u/\Sat w p.L W) ?_ ?_
  ·refine .r<|.ld 1 p 0 Y<|.ix 1 (H.l.E p.E) Y<|.le 0 (H.l.E p.E) E Y<|.e Y (.ej Y Y)<|.z 1 Y<|.B 70 Y (λ g4=>?_) λ g4=>?_
   ·exact .ld 1 p 0 Y<|.ix 1 (H.l.E p.E) Y<|.le 0 (H.l.E p.E) E Y<|.cp 0 p (eI s _) Y λ _ b2=>.a 0 Y (.cK Y)<|.Z Y ⟨⟨If some (If Value.bool (by simp[g4])),Y,Y,Y,Y,Y,Y,Y,Y,trivial⟩,b2⟩
   exact .Z Y ⟨⟨If some (If Value.bool (by simp[g4])),Y,Y,Y,Y,Y,Y,Y,Y,trivial⟩,p⟩
  rintro u w9 ⟨a6,T⟩;exact .weaken _ a6<|.ak Y (IN (λ h=>(j.nm s (a8 E)).elim (λ e=>h.1 e) (λ e=>by have:=h.2;simp[e]at this)))<|.k<|.h<|.ld 1 T 0 Y<|.cp 1 T (G5 _ c.hd _ k _ (H.h.E T.E) O o.Xd a0) Y λ _ b3=>.j<|.ak Y Y<|.k<|.U Y<|aP (k+1) b3
 exact .aq<|.Z Y<|.bK Y Y Y ⟨Y,s4.pk []⟩
def oQ(c:Co)(n:Nat)(w:World)(H:RdC w c)(o:OkC n c)(d:n<=4):
  CallsV prog 17 [(.agg #[c.va,c.vt,c.vx,c.vr,c.vn,c.vh,c.vl])] w λ r W=>r= .tuple #[.I ((0:Nat):Int),.I ((0:Nat):Int),.I ((0:Nat):Int)]/\Sat w [] W:=by
 refine cd func17 Y λ i=>.h<|.bx 0 i Y λ u _ j _ _=>.W Y<|.h<|.ld 1 j 0 Y<|.cp 0 j (G2 _ c.at_ _ (H.a.E j.E) o.at_) Y λ _ k=>.Z Y<|.Z Y<|.ak Y Y<|.p<|.h<|.lo 0 k 0 Y<|.cq 0 k (Cg c n _ (H.E k.E) o d) Y λ _ l=>.Z Y<|.Z Y<|.ak Y Y<|.p<|.h<|.lo 0 l 0 Y<|.cp 0 l (G3 c n _ (H.E l.E) o d) Y λ _ p=>.Z Y<|.Z Y<|.ak Y Y<|.p<|.h<|.lo 0 p 0 Y<|.cp 0 p (zF c n _ (H.E p.E) o d) Y λ _ g=>.Z Y<|.Z Y<|.ak Y Y<|.p<|.h<|.ld 1 g 0 Y<|.lo 0 g 0 Y<|.cq 0 g (G4 c n _ (H.E g.E) o d) Y λ _ q=>.W Y<|.trim [0,1,2,3,4,5,6,7,8,9,10,11,12,13,14] Y<|.U Y<|.ak Y Y<|.p<|.h<|.lo 0 q 0 Y<|.cp 0 q (G6 c n _ (H.E q.E) o d) Y λ _ t=>.Z Y<|.Z Y<|.ak Y Y<|.k<|.Z Y<|.ret ?_;show aE _ _ _ _ _ _;exact js Y Y Y Y ⟨Y,t.pk []⟩
def sZ(c:Co)(n:Nat)(w:World)(i:RdC w c)(o:OkC n c)(g:n<=4):
  CallsV prog 41 [(.agg #[c.va,c.vt,c.vx,c.vr,c.vn,c.vh,c.vl])] w λ r W=>r= .bool true/\Sat w [] W:=cd func41 Y λ H=>.h<|.bx 0 H Y λ k _ d _ _=>.Z Y<|.h<|.lo 0 d 0 Y<|.cp 0 d (oQ c n _ (i.E d.E) o g) Y λ _ j=>.Z Y<|.Z Y<|.ax Y Y ⟨Y,j.pk []⟩
end Go.Proofs.YtcgidfgdbhihbaaGreatDoor
namespace Go.Kw
def wA(n:Int)(x:Iv):Iv:={x with b:=x.b+n}
def Q8(n:Int)(x:Iv):Iv:={x with e:=x.e+n}
def wB(n:Int)(x:Nd):Nd:={x with b:=x.b+n}
def Ig(n:Int)(x:Nd):Nd:={x with e:=x.e+n}
def Wj(m:Int)(x:Nd):Nd:={x with p:=x.p+m}
def y0{α:Type}{l r:List α}{f:α->α}{j:Nat}:(l++((J j r).map f++ww j r))[I l+j]? =r[j]? :=by
 rw[XP O,Yk];rcases XI j (I r) with h|h
 ·rw[XP cf,YI];congr 1;simp;omega
 ·rw[Yo h,Yr,Xx h,XQ ra,XQ h]
def mL{α:Type}{l r:List α}{f:α->α}{j:Nat}:I (l++((J j r).map f++ww j r))=I l+I r:=by
 simp only[AT,Xu,Xo,XD];omega
def si{α:Type}{l r:List α}{f:α->α}{j:Nat}{x:α}(d:r[j]? =some x):(l++((J j r).map f++ww j r)).set (I l+j) (f x)=l++((J (j+1) r).map f++ww (j+1) r):=by
 obtain⟨H,rfl⟩:=KC.1 d;rw[Y2 _ _ O,Yk,Y2 _ _ cf];have e:j-I ((J j r).map f)=0:=by simp;omega
 rw[e,Yl H,set_cons_zero,a1b H,Y0,KW];rfl
def y1{α:Type}{l r:List α}{f:α->α}{j:Nat}(h:I r<=j):l++((J j r).map f++ww j r)=l++r.map f:=by
 rw[Xx h,Yo h,Yr]
def Ih{P:SV->List ByteArray->Prop}{l r:List Tk}(h1:∀ t∈l,P t.sv t.ns)(h2:∀ t∈r,P t.sv t.ns):∀ t∈l++r,P t.sv t.ns:=λ t H=>(XE.1 H).elim (h1 t) (h2 t)
def y3{P:SV->List Pr->Prop}{l r:List Iv}{n:Int}(h1:∀ t∈l,P t.sv t.ps)(h2:∀ t∈r,P t.sv t.ps):∀ t∈l++r.map (n0 n),P t.sv t.ps:=λ t H=>(gM H).elim (h1 t) λ⟨y,d,e⟩=>by rw[e];exact h2 y d
def vN{α β:Type}{r:List α}{f:α->β}{j:Nat}{x:α}(d:r[j]? =some x):(J (j+1) r).map f=(J j r).map f++[f x]:=by
 obtain⟨H,rfl⟩:=KC.1 d;rw[a1b H,Y0];rfl
def ec{n:Nat}{c:Co}(h:OkC n c):I (kX c)=I c.tk/\I (mb c)=I c.tk:=h.hw.len
def Ri(n k:Nat)(l:List Int)(d:I l=n)(h:∀ (j:Nat),j<k->l[j]? =some (-1))(o:n<=k):l=List.replicate n (-1):=by
 apply a01 a0I;intro i H g;have:=h i O;rw[py H]at this;rw[getElem_replicate];exact Y8 this
theorem cF{α:Type}{l:List α}{k:Nat}{x:α}(H:l[k]? =some x):J (k+1) l=J k l++[x]:=by
 obtain⟨j,rfl⟩:=KC.1 H;exact a1b j
def N6{α:Type}{l:List α}{j:Nat}{p:Prop}[Decidable p][Inhabited α](h:p->j<I l):∃ y,p->l[j]? =some y:=by
 by_cases q:p
 ·exact⟨l[j]'(h q),λ _=>py _⟩
 ·exact⟨default,λ r=>absurd r q⟩
instance:Inhabited Iv:=⟨⟨wt,0,0,⟨none,0,0⟩,[]⟩⟩
def Rj{N:List Nd}{k:Nat}{n m:Int}{x:Nd}(h:¬ 0<=x.p):(N.set k (wB n x)).set k (Ig n (wB n x))=N.set k (C6 n m x):=by
 rw[a09];unfold C6;rw[Xn h];rfl
def Rk{N:List Nd}{k:Nat}{n m:Int}{x:Nd}(h:0<=x.p):((N.set k (wB n x)).set k (Ig n (wB n x))).set k (Wj m (Ig n (wB n x)))=N.set k (C6 n m x):=by
 rw[a09,a09];unfold C6;rw[Xp h];rfl
def Up{n:Nat}{c:Co}(h:OkC n c){i:Nat}{x:Int}(H:(kX c)[i]? =some x):x<(I c.tk:Int)+1/\-1<=x:=by
 rcases h.hw.el i x H with e|⟨t,ht,h1,h2,h3,h4⟩
 ·omega
 ·have:=(h.tx.nm t ht).2.2;omega
end Go.Kw
namespace Go.Proofs.YtcgidfgdbhihbaaGreatDoor
open Go.RowKit Go.Kw
def Ch(c:Co)(nm:ByteArray)(w:World)(H:RdC w c)(D:I c.tx<=64)(o:∀ y∈c.tx,y.nm≠nm):
  CallsV prog 43 [(.agg #[c.va,c.vt,c.vx,c.vr,c.vn,c.vh,c.vl]),(.string nm)] w λ r W=>r= .I (-1)/\Sat w [] W:=by
 have j:=Sat.start w;refine aa func43 Y Y<|.h<|.bx 0 j Y λ u _ d _ _=>.W Y<|.h<|.ld 1 d 0 Y<|.ln 0 (H.x.E d.E) Y<|.V Y<|.lq [0,1,2,8,9] Y (α:=Nat) (λ k=>[(10,(.I k))]) (λ k W=>Sat w d.L W) (λ k=>I c.tx-k) 0 d ?_;rintro k t g;refine .W Y<|.ab Y (λ l=>?_) λ l=>?_
 ·refine .q<|.s ?_;obtain⟨x,p⟩:=ut c.tx k l;exact .r<|.ix 1 (H.x.E g.E) Y<|.lg 0 (H.x.E g.E) p Y<|.al 0 g Y λ A _ q _ _=>.sa 1 q 1 Y ((aL).one _) λ _ i _=>have i:=i.nn;.j<|.h<|.ld 1 i 1 Y<|.a 1 Y (.cN Y Y)<|.j<|.ak Y (IN (o x (a8 p)))<|.k<|.U Y<|aP (k+1) (i.pk [0])
 exact .aq<|.Z Y<|.ax Y Y ⟨Y,g.pk []⟩
def rA(c:Co)(w:World)(E:RdC w c)(hl:I c.tk<=5000):
  CallsV prog 44 [(.agg #[c.va,c.vt,c.vx,c.vr,c.vn,c.vh,c.vl])] w λ r X=>∃ vh vl d,r= .tuple #[vh,vl]/\Sat w [fK d (λ W=>RdC W c->RdL W vh (Kw.encI .i64) (kX c)/\RdL W vl aw (mb c))] X:=by
 have K:=Sat.start w;refine aa func44 Y Y<|.h<|.bx 0 K Y λ b1 _ o _ _=>.W Y<|.h<|.ld 1 o 0 Y<|.ln 0 (E.h.E o.E) Y<|.Z Y<|.ab Y (λ p=>?_) λ p=>?_
 ·exact .s<|.dk [0] o Y (pl [0,1,2,3,4,5] .fin) λ s2 A=>.ld 1 A 0 Y<|.ld 1 A 0 Y<|.Z A Y<|.bK Y Y Y ⟨_,_,[],Y,(s2.pk []).qv λ W q=>⟨by unfold kX;rw[Xp p];exact q.h,by unfold mb;rw[Xp p];exact q.l⟩⟩
 refine .k<|.h<|.ld 1 o 0 Y<|.ln 0 (E.t.E o.E) Y<|.f Y (.df (Kw.encI .i64) (0:Int) bc Y o Y Y O O O λ v1 _ P _=>.W Y<|.h<|.ln 1 (P.aj 1 Y) Y<|.V Y<|have a0:=Zf (n:=I c.tk) (a:=(0:Int));.lq [0,1,2,3,19] Y (α:=Nat×Value×List Int) (λ(k,i,H)=>[(4,i),(20,(.I k))]) (λ(k,i,H) X=>Sat w (P.U [(1,cL i 3 (Kw.encI .i64) H)]) X/\(I H=I c.tk)/\(∀ (j:Nat),j<k->H[j]? =some (-1))) (λ(k,i,H)=>I c.tk-k) (0,v1,List.replicate (I c.tk) (0:Int)) ⟨P,bw,λ j h=>absurd h O⟩ ?_);rintro⟨k,i,H⟩ a1 ⟨R,u,g⟩;refine .W Y<|.ab Y (λ c2=>?_) λ c2=>?_
 ·exact .q<|.Z Y<|.r<|.ix 2 (R.aj 1 Y) Y<|.f Y (.dJ (a:= -1) 1 dB R Y Y Y Y O λ _ T _=>have T:=T.nn;.j<|.U Y<|aP (k+1,i,H.set k (-1)) ⟨T,by rw[Xt];exact u,λ j h=>by rw[YQ];split;rw[Xp O];exact g j O⟩)
 refine .aq<|.s ?_;have N:=Ri (I c.tk) k H u g O;subst N;refine .dk [0,1] R Y (pl [0,1,2,3,5,1004,6] .fin) λ s7 D=>.ld 2 D 0 Y<|.ln 0 D (E.t.E ·.E) Y<|.z 1 D Y<|.f Y (.df aw wt bI Y s7 Y Y O O O λ v2 _ y _=>have y:=y.nn;have S3:=y.pk [0,1];⟨S3,?_⟩);refine .Z S3 Y<|.bK Y Y Y ?_;obtain⟨d,hF⟩:=(y.pick [1,2] Y).rW 2 (Q:=λ W=>RdC W c->RdL W i (Kw.encI .i64) (kX c)/\RdL W v2 aw (mb c)) (λ W hA q=>⟨by unfold kX;rw[Xn p];exact hA.aj 0 Y,by unfold mb;rw[Xn p];exact hA.aj 1 Y⟩);exact⟨_,_,d,Y,hF⟩
def G7(a b:Co)(n m:Nat)(w:World)(ha:RdC w a)(hb:RdC w b)(D:OkC n a)(o:OkC m b)(hn:n<=4)(hm:m<=4)(m4:a.at_=b.at_)(m6:∀ x∈b.tx,∀ y∈a.tx,y.nm≠x.nm):
  CallsV prog 15 [(.agg #[a.va,a.vt,a.vx,a.vr,a.vn,a.vh,a.vl]),(.agg #[b.va,b.vt,b.vx,b.vr,b.vn,b.vh,b.vl])] w λ r w'=>∃ (x:Co) (d:List Nat),r= .tuple #[x.val,.I ((0:Nat):Int)]/\IsCat a b x/\Sat w [fK d (λ w1=>RdC w1 a->RdC w1 b->RdC w1 x)] w':=by
 have q4:=D.ntk;have q5:=D.ntx;have q3:=D.nrg;have q2:=D.nnd;have q0:=D.at_.2;have r0:=o.ntk;have r1:=o.ntx;have q9:=o.nrg;have q8:=o.nnd;have q6:=o.at_.2;have q1:=(D.sm O).hd;have q7:=(o.sm O).hd;have m7:=Sat.start w;refine aa func15 Y Y ?_;refine .h<|.bx 0 m7 Y λ b1 _ s1 _ _=>.bx 0 s1 Y λ b2 _ s2 _ _=>.al 0 s2 Y λ b3 _ s3 _ _=>?_;have s3:=s3.nn;refine .W Y<|.h<|.lo 0 s3 0 Y<|.cp 0 s3 (sZ a _ _ (ha.E s3.E) D hn) Y λ _ s4=>.lo 2 s4 1 Y<|.cp 0 s4 (sZ b _ _ (hb.E s4.E) o hm) Y λ _ s5=>.Z Y<|.ak Y Y<|.p<|.h<|.ld 1 s5 0 Y<|.ld 1 s5 1 Y<|.cq 0 s5 (wx _ _ a.at_ b.at_ _ (ha.a.E s5.E) (hb.a.E s5.E) O) Y λ _ s6=>.e Y (.oG Y)<|.j<|.ak Y (IN (λ h=>h m4))<|.p<|.h<|.ld 1 s6 1 Y<|.ln 0 (hb.x.E s6.E) Y<|.V Y<|.lq [0,1,2,3,4,37,38] Y (α:=Nat) (λ k=>[(39,(.I k))]) (λ k w'=>Sat w s6.L w') (λ k=>I b.tx-k) 0 s6 ?_;rintro k w7 s7;refine .W Y<|.ab Y (λ c1=>?_) λ c1=>?_
 ·refine .q<|.s ?_;obtain⟨x,hx⟩:=ut b.tx k c1;exact .r<|.ix 0 (hb.x.E s7.E) Y<|.lg 0 (hb.x.E s7.E) hx Y<|.al 0 s7 Y λ b4 _ s8 _ _=>.sa 0 s8 3 Y ((aL).one _) λ _ s9 _=>.j<|.h<|.lo 0 s9 0 Y<|.ld 1 s9 3 Y<|.cq 0 s9 (Ch a x.nm _ (ha.E s9.E) O (m6 x (a8 hx))) Y λ _ m9=>.e Y (.geq Y Y)<|.j<|.ak Y (IN O)<|.k<|.U Y<|aP (k+1) (m9.pk [0,1,2])
 refine .aq<|.s<|.dk [0,1,2] s7 Y (pl [0,1,2,3,4,5,6,7] .fin) λ W S1=>.ld 1 S1 0 Y<|.ln 0 S1 (ha.t.E ·.E) Y<|.ld 1 S1 0 Y<|.ln 0 S1 (ha.n.E ·.E) Y<|.Z S1 Y<|.s<|.h<|.ld 2 W 1 Y<|.ln 0 (hb.t.E W.E) Y<|.z 3 Y<|.Gf 62 Y (IN O)<|.ld 1 W 0 Y<|.ln 0 (ha.x.E W.E) Y<|.ld 1 W 1 Y<|.ln 0 (hb.x.E W.E) Y<|.z 4 Y<|.Gf 72 Y (IN O)<|.ld 1 W 0 Y<|.ln 0 (ha.r.E W.E) Y<|.ld 1 W 1 Y<|.ln 0 (hb.r.E W.E) Y<|.z 4 Y<|.Gf 82 Y (IN O)<|.ld 2 W 1 Y<|.ln 0 (hb.n.E W.E) Y<|.Z Y<|.ak Y (IN O)<|.p<|.trim [0,1,2,3,4,8,9,37,38,39] Y<|.r<|.ld 1 W 0 Y<|have i6:=W.aC 81 cj;.ap 0 i6 3 (ha.a.E i6.E) Y (h1:=gv) (h2:=gv) λ v1 _ i7 _=>.e Y (.build HM Y ⟨(i7.aj 3 Y).ae,trivial⟩ Y)<|.al 0 i7 Y λ b5 _ i8 _ _=>.sa 0 i8 4 (vs:=[v1,.N,.N,.N,.N,.N,.N]) Y (t8 ⟨(i8.aj 3 Y).ae,Y,Y,Y,Y,Y,Y,trivial⟩) λ _ n2 _=>.j<|.s<|.dk [0,1,2,3] n2 Y (pl [0,1,3,4,1002,1005,6,1007] .fin) λ n3 S2=>.ld 1 S2 0 Y<|.ld 1 S2 1 Y<|have i9:=n3.aC 28 k8;.f Y (.aD 5 DI i9 Y Y Y underlying24 (ha.t.E i9.E) gv gv λ v2 _ g2 _=>have S3:=g2.pk [0,1,2,3];⟨S3,?_⟩);refine .f Y (.aD 5 DI g2 Y Y Y underlying24 (hb.t.E g2.E) gv gv λ v3 _ n5 _=>have c0:Sat w [_,_,_,_,_,cL v3 28 k8 (a.tk++b.tk)] _:=n5;have S4:=c0.pk [0,1,2,3];⟨S4,?_⟩);refine .z 1 S4 Y<|.f Y (.aG QF c0 (i:=4) Y Y Y ((c0.aj 5 Y).ae) Y λ _ e6 _=>have e6:=e6.nn;have S5:=e6.pk [0,1,2,3];⟨S5,?_⟩);refine .fin<|.s<|.dk [0,1,2,3,5] e6 Y (pl [0,1,3,4,1002,1005,6,1007] .fin) λ n6 S6=>.ld 1 S6 0 Y<|.ld 1 S6 1 Y<|have k0:=n6.aC 63 aL;.f Y (.aD 6 wm k0 Y Y Y underlying25 (ha.x.E k0.E) gv gv λ w0 _ g3 _=>have S7:=g3.pk [0,1,2,3,5];⟨S7,?_⟩);refine .f Y (.aD 6 wm g3 Y Y Y underlying25 (hb.x.E g3.E) gv gv λ v5 _ g4 _=>have S8:=g4.pk [0,1,2,3,5];⟨S8,?_⟩);refine .z 1 S8 Y<|.f Y (.aG QG g4 (i:=4) Y Y Y ((g4.aj 6 Y).ae) Y λ _ c9 _=>have S9:=c9.pk [0,1,2,3,5];⟨S9,?_⟩);refine .fin<|.s<|.h<|.ld 1 c9 0 Y<|.ln 0 (ha.x.E c9.E) Y<|.V Y<|.lq [0,1,2,3,4,8,9,10,37,38,39] Y (α:=Nat×List Iv) (λ(jT,T)=>[(11,(.I ((I a.tx+jT):Nat)))]) (λ(jT,T) w'=>Sat w (c9.U [(6,cL v5 63 aL T)]) w'/\(T=a.tx++((J jT b.tx).map (n0 ((I a.tk:Nat):Int))++ww jT b.tx))/\(jT<=I b.tx)) (λ(jT,T)=>I b.tx-jT) (0,a.tx++b.tx) ⟨c9,bw,KD _⟩ ?_;rintro⟨jT,T⟩ x2 ⟨a0,hT,s0⟩;refine .s<|.h<|.ld 2 a0 4 Y<|.ln 0 (a0.aj 6 Y) Y<|.Z Y<|.ab Y (λ c2=>?_) λ c2=>?_
 ·refine .q<|.s ?_;have i3:I T=I a.tx+I b.tx:=by rw[hT];exact mL
  obtain⟨x,hx⟩:=ut b.tx jT O;have a5:T[I a.tx+jT]? =some x:=by rw[hT,y0];exact hx
  have a4:(T.set (I a.tx+jT) (wA ((I a.tk:Nat):Int) x))[(I a.tx+jT)]? =some (wA ((I a.tk:Nat):Int) x):=Yi O;have b7:((T.set (I a.tx+jT) (wA ((I a.tk:Nat):Int) x)).set (I a.tx+jT) (Q8 ((I a.tk:Nat):Int) (wA ((I a.tk:Nat):Int) x)))[(I a.tx+jT)]? =some (Q8 ((I a.tk:Nat):Int) (wA ((I a.tk:Nat):Int) x)):=Yi a2z;have i4:(wA ((I a.tk:Nat):Int) x).e=x.e:=rfl;have i5:=(o.tx.nm x (a8 hx)).2.2;exact .r<|.ld 1 a0 4 Y<|.ix 1 (a0.aj 6 Y) Y (hj:=eg)<|.fl 0 (a0.aj 6 Y) Y (hj:=eg)<|.lf 0 (a0.aj 6 Y) a5 Y<|.a 1 Y (.add Y Y en)<|.ix 0 (a0.aj 6 Y) Y (hj:=eg)<|.fl 0 (a0.aj 6 Y) Y (hj:=eg)<|.f Y (.jF (E:=aL) 6 (wA ((I a.tk:Nat):Int) x) dB a0 Y Y Y Y a5 Y bl λ _ a6 _=>.j<|.r<|.ld 1 a6 4 Y<|.ix 1 (a6.aj 6 Y) Y (hj:=eg)<|.fl 0 (a6.aj 6 Y) Y (hj:=eg)<|.lf 0 (a6.aj 6 Y) a4 Y<|.a 1 Y (.add Y Y en)<|.ix 0 (a6.aj 6 Y) Y (hj:=eg)<|.fl 0 (a6.aj 6 Y) Y (hj:=eg)<|.f Y (.jF (E:=aL) 6 (Q8 ((I a.tk:Nat):Int) (wA ((I a.tk:Nat):Int) x)) dB a6 Y Y Y Y a4 Y bl λ _ g5 _=>have g5:=g5.nn;.j<|.U Y<|aP (jT+1,(T.set (I a.tx+jT) (wA ((I a.tk:Nat):Int) x)).set (I a.tx+jT) (Q8 ((I a.tk:Nat):Int) (wA ((I a.tk:Nat):Int) x))) ⟨g5,by rw[a09,hT];exact si (f:=n0 ((I a.tk:Nat):Int)) hx,O⟩))
 refine .aq<|.s ?_;have e5:T=a.tx++b.tx.map (n0 ((I a.tk:Nat):Int)):=by rw[hT];exact y1 (by have h9:I T=I a.tx+I b.tx:=(by rw[hT];exact mL);omega)
 refine .dk [0,1,2,3,5,6] a0 Y (pl [0,1,3,4,1002,1005,6,1007] .fin) λ n7 h7=>.ld 1 h7 0 Y<|.ld 1 h7 1 Y<|have k1:=n7.aC 67 aL;.f Y (.aD 7 rq k1 Y Y Y underlying26 (ha.r.E k1.E) gv gv λ v6 _ n8 _=>have e0:Sat w [_,_,_,_,ai b5 30 [v1,v3,v5,.N,.N,.N,.N],_,cL v5 63 aL T,cL v6 67 aL a.rg] _:=n8;have l2:=e0.pk [0,1,2,3,5,6];⟨l2,?_⟩);refine .f Y (.aD 7 rq e0 Y Y Y underlying26 (hb.r.E e0.E) gv gv λ v7 _ g6 _=>have h8:=g6.pk [0,1,2,3,5,6];⟨h8,?_⟩);refine .z 1 h8 Y<|.f Y (.aG QH g6 (i:=4) Y Y Y ((g6.aj 7 Y).ae) Y λ _ e1 _=>have m0:=e1.pk [0,1,2,3,5,6];⟨m0,?_⟩);refine .fin<|.s<|.h<|.ld 1 e1 0 Y<|.ln 0 (ha.r.E e1.E) Y<|.V Y<|.lq [0,1,2,3,4,8,9,10,11,37,38,39] Y (α:=Nat×List Iv) (λ(jR,R)=>[(12,(.I ((I a.rg+jR):Nat)))]) (λ(jR,R) w'=>Sat w (e1.U [(7,cL v7 67 aL R)]) w'/\(R=a.rg++((J jR b.rg).map (n0 ((I a.tk:Nat):Int))++ww jR b.rg))/\(jR<=I b.rg)) (λ(jR,R)=>I b.rg-jR) (0,a.rg++b.rg) ⟨e1,bw,KD _⟩ ?_;rintro⟨jR,R⟩ x3 ⟨a1,hR,r9⟩;refine .s<|.h<|.ld 2 a1 4 Y<|.ln 0 (a1.aj 7 Y) Y<|.Z Y<|.ab Y (λ c3=>?_) λ c3=>?_
 ·refine .q<|.s ?_;have i3:I R=I a.rg+I b.rg:=by rw[hR];exact mL
  obtain⟨x,hx⟩:=ut b.rg jR O;have a5:R[I a.rg+jR]? =some x:=by rw[hR,y0];exact hx
  have a4:(R.set (I a.rg+jR) (wA ((I a.tk:Nat):Int) x))[(I a.rg+jR)]? =some (wA ((I a.tk:Nat):Int) x):=Yi O;have b7:((R.set (I a.rg+jR) (wA ((I a.tk:Nat):Int) x)).set (I a.rg+jR) (Q8 ((I a.tk:Nat):Int) (wA ((I a.tk:Nat):Int) x)))[(I a.rg+jR)]? =some (Q8 ((I a.tk:Nat):Int) (wA ((I a.tk:Nat):Int) x)):=Yi a2z;have i4:(wA ((I a.tk:Nat):Int) x).e=x.e:=rfl;have i5:=(o.rg.el x (a8 hx)).2.1.bd o.tx;refine .r<|.ld 1 a1 4 Y<|.ix 1 (a1.aj 7 Y) Y (hj:=eg)<|.fl 0 (a1.aj 7 Y) Y (hj:=eg)<|.lf 0 (a1.aj 7 Y) a5 Y<|.a 1 Y (.add Y Y en)<|.ix 0 (a1.aj 7 Y) Y (hj:=eg)<|.fl 0 (a1.aj 7 Y) Y (hj:=eg)<|.f Y (.jF (E:=aL) 7 (wA ((I a.tk:Nat):Int) x) dB a1 Y Y Y Y a5 Y bl λ _ a3 _=>?_);have a3:=a3.nn;refine .j<|.r<|.ld 1 a3 4 Y<|.ix 1 (a3.aj 7 Y) Y (hj:=eg)<|.fl 0 (a3.aj 7 Y) Y (hj:=eg)<|.lf 0 (a3.aj 7 Y) a4 Y<|.a 1 Y (.add Y Y en)<|.ix 0 (a3.aj 7 Y) Y (hj:=eg)<|.fl 0 (a3.aj 7 Y) Y (hj:=eg)<|.f Y (.jF (E:=aL) 7 (Q8 ((I a.tk:Nat):Int) (wA ((I a.tk:Nat):Int) x)) dB a3 Y Y Y Y a4 Y bl λ _ o1 _=>?_);refine .j<|.U Y ?_;exact aP (jR+1,(R.set (I a.rg+jR) (wA ((I a.tk:Nat):Int) x)).set (I a.rg+jR) (Q8 ((I a.tk:Nat):Int) (wA ((I a.tk:Nat):Int) x))) ⟨o1,by rw[a09,hR];exact si (f:=n0 ((I a.tk:Nat):Int)) hx,O⟩
 refine .aq<|.s ?_;have e4:R=a.rg++b.rg.map (n0 ((I a.tk:Nat):Int)):=by rw[hR];exact y1 (by have h9:I R=I a.rg+I b.rg:=(by rw[hR];exact mL);omega)
 refine .dk [0,1,2,3,5,6,7] a1 Y (pl [0,1,3,4,1002,1005,6,1007] .fin) λ o2 i0=>.ld 1 i0 0 Y<|.ld 1 i0 1 Y<|have k2:=o2.aC 69 bT;.f Y (.aD 8 jS k2 Y Y Y underlying27 (ha.n.E k2.E) gv gv λ v8 _ g7 _=>have m1:=g7.pk [0,1,2,3,5,6,7];⟨m1,?_⟩);refine .f Y (.aD 8 jS g7 Y Y Y underlying27 (hb.n.E g7.E) gv gv λ v9 _ p1 _=>have e2:Sat w [_,_,_,_,_,_,_,_,cL v9 69 bT (a.nd++b.nd)] _:=p1;have i1:=e2.pk [0,1,2,3,5,6,7];⟨i1,?_⟩);refine .z 1 i1 Y<|.f Y (.aG vm e2 (i:=4) Y Y Y ((e2.aj 8 Y).ae) Y λ _ e3 _=>have e3:=e3.nn;have m2:=e3.pk [0,1,2,3,5,6,7];⟨m2,?_⟩);refine .fin<|.s<|.V Y<|.lq [0,1,2,3,4,8,9,10,11,12,37,38,39] Y (α:=Nat×List Nd) (λ(jN,N)=>[(13,(.I ((I a.nd+jN):Nat)))]) (λ(jN,N) w'=>Sat w (e3.U [(8,cL v9 69 bT N)]) w'/\(N=a.nd++((J jN b.nd).map (C6 ((I a.tk:Nat):Int) ((I a.nd:Nat):Int))++ww jN b.nd))/\(jN<=I b.nd)) (λ(jN,N)=>I b.nd-jN) (0,a.nd++b.nd) ⟨e3,bw,KD _⟩ ?_;rintro⟨jN,N⟩ x4 ⟨g,hN,r8⟩;refine .s<|.h<|.ld 2 g 4 Y<|.ln 0 (g.aj 8 Y) Y<|.Z Y<|.ab Y (λ c4=>?_) λ c4=>?_
 ·refine .q<|.s ?_;have i3:I N=I a.nd+I b.nd:=by rw[hN];exact mL
  obtain⟨x,hx⟩:=ut b.nd jN O;have a5:N[I a.nd+jN]? =some x:=by rw[hN,y0];exact hx
  have a4:(N.set (I a.nd+jN) (wB ((I a.tk:Nat):Int) x))[(I a.nd+jN)]? =some (wB ((I a.tk:Nat):Int) x):=Yi O;have b7:((N.set (I a.nd+jN) (wB ((I a.tk:Nat):Int) x)).set (I a.nd+jN) (Ig ((I a.tk:Nat):Int) (wB ((I a.tk:Nat):Int) x)))[(I a.nd+jN)]? =some (Ig ((I a.tk:Nat):Int) (wB ((I a.tk:Nat):Int) x)):=Yi a2z;have i4:(wB ((I a.tk:Nat):Int) x).e=x.e:=rfl;have r7:(Ig ((I a.tk:Nat):Int) (wB ((I a.tk:Nat):Int) x)).p=x.p:=rfl;have i5:=(o.nd.el x (a8 hx)).2.bd o.tx;have u1:=(o.nd.par jN x hx).imp_right (·.1);refine .r<|.ld 1 g 4 Y<|.ix 1 (g.aj 8 Y) Y (hj:=eg)<|.fl 0 (g.aj 8 Y) Y (hj:=eg)<|.lf 0 (g.aj 8 Y) a5 Y<|.a 1 Y (.add Y Y en)<|.ix 0 (g.aj 8 Y) Y (hj:=eg)<|.fl 0 (g.aj 8 Y) Y (hj:=eg)<|.f Y (.jF (E:=bT) 8 (wB ((I a.tk:Nat):Int) x) dB g Y Y Y Y a5 Y bl λ _ a9 _=>.j<|.h<|.ld 1 a9 4 Y<|.ix 1 (a9.aj 8 Y) Y (hj:=eg)<|.fl 0 (a9.aj 8 Y) Y (hj:=eg)<|.lf 0 (a9.aj 8 Y) a4 Y<|.a 1 Y (.add Y Y en)<|.ix 0 (a9.aj 8 Y) Y (hj:=eg)<|.fl 0 (a9.aj 8 Y) Y (hj:=eg)<|.f Y (.jF (E:=bT) 8 (Ig ((I a.tk:Nat):Int) (wB ((I a.tk:Nat):Int) x)) dB a9 Y Y Y Y a4 Y bl λ _ X _=>.j<|.h<|.ld 1 X 4 Y<|.ix 1 (X.aj 8 Y) Y (hj:=eg)<|.fl 0 (X.aj 8 Y) Y (hj:=eg)<|.lf 0 (X.aj 8 Y) b7 Y<|.e Y (.geq Y Y)<|.j<|.ab Y (λ c5=>?_) λ c5=>?_))
  ·exact .trim [0,1,2,3,4,8,9,10,11,12,13,37,38,39] Y<|.r<|.ld 1 X 4 Y<|.ix 1 (X.aj 8 Y) Y (hj:=eg)<|.fl 0 (X.aj 8 Y) Y (hj:=eg)<|.lf 0 (X.aj 8 Y) b7 Y<|.a 1 Y (.add Y Y en)<|.ix 0 (X.aj 8 Y) Y (hj:=eg)<|.fl 0 (X.aj 8 Y) Y (hj:=eg)<|.f Y (.jF (E:=bT) 8 (Wj ((I a.nd:Nat):Int) (Ig ((I a.tk:Nat):Int) (wB ((I a.tk:Nat):Int) x))) dB X Y Y Y Y b7 Y bl λ _ g8 _=>have g8:=g8.nn;.j<|.U Y<|aP (jN+1,((N.set (I a.nd+jN) (wB ((I a.tk:Nat):Int) x)).set (I a.nd+jN) (Ig ((I a.tk:Nat):Int) (wB ((I a.tk:Nat):Int) x))).set (I a.nd+jN) (Wj ((I a.nd:Nat):Int) (Ig ((I a.tk:Nat):Int) (wB ((I a.tk:Nat):Int) x)))) ⟨g8,by rw[Rk (x:=x) (m:=((I a.nd:Nat):Int)) c5,hN];exact si (f:=C6 ((I a.tk:Nat):Int) ((I a.nd:Nat):Int)) hx,O⟩)
  exact .k<|.trim [0,1,2,3,4,8,9,10,11,12,13,37,38,39] Y<|.U Y<|aP (jN+1,(N.set (I a.nd+jN) (wB ((I a.tk:Nat):Int) x)).set (I a.nd+jN) (Ig ((I a.tk:Nat):Int) (wB ((I a.tk:Nat):Int) x))) ⟨X,by rw[Rj (x:=x) (m:=((I a.nd:Nat):Int)) c5,hN];exact si (f:=C6 ((I a.tk:Nat):Int) ((I a.nd:Nat):Int)) hx,O⟩
 refine .aq<|.s<|.s ?_;have i2:N=a.nd++b.nd.map (C6 ((I a.tk:Nat):Int) ((I a.nd:Nat):Int)):=by rw[hN];exact y1 (by have h9:I N=I a.nd+I b.nd:=(by rw[hN];exact mL);omega)
 refine .r<|.ld 1 g 0 Y<|.ln 0 (ha.h.E g.E) Y<|.ld 1 g 1 Y<|.ln 0 (hb.h.E g.E) Y<|.Z Y<|.ab Y (λ c6=>?_) λ c6=>?_
 ·refine .s ?_;have m5:=c6;refine .r<|.lo 0 g 0 Y<|.c 0 (rA a _ (ha.E g.E) O) Y λ r5 _ h5=>?_;obtain⟨w5,w9,r2,rfl,p5⟩:=h5;have g9:=g.ay p5;refine .Z Y<|.h<|.lo 0 g9 1 Y<|.c 0 (rA b _ (hb.E g9.E) O) Y λ r6 _ h6=>?_;obtain⟨w6,x1,r3,rfl,p6⟩:=h6;have p2:=g9.ay p6;refine .Z Y<|.h<|.z 1 Y ?_;have h0:=p2.aC 3 (Kw.encI .i64);refine .ap 0 h0 11 ((h0.bE 9 Y) (ha.E h0.E)).1 Y (h1:=a2D) (h2:=a2D) λ p8 _ p3 _=>.z 1 Y ?_;have h3:=p3.aC 9 aw;refine .ap 0 h3 12 ((h3.bE 9 Y) (ha.E h3.E)).2 Y (h1:=a2D) (h2:=a2D) λ u8 _ h4 _=>.ap 1 h4 12 ((h4.bE 10 Y) (hb.E h4.E)).2 Y (h1:=a4m) (h2:=a4m) λ b6 _ p4 _=>?_;have g1:Sat w [_,_,_,_,_,_,_,_,_,_,_,_,cL b6 9 aw (mb a++mb b)] _:=p4;refine .st 1 g1 4 Y (h1:=(g1.aj 11 Y).ae) λ _ e7 _=>?_;have e7:=e7.nn;refine .st 1 e7 4 Y (h1:=(e7.aj 12 Y).ae) λ _ e8 _=>.j<|.s<|.trim [0,1,2,3,4,8,9,10,11,12,13,14,15,16,17,37,38,39] Y<|.r<|.ln 1 ((e8.bE 10 Y) (hb.E e8.E)).1 Y<|.V Y<|.lq [0,1,2,3,4,8,9,10,11,12,13,14,15,16,17,37,38,39,254,255] Y (α:=Nat×Value×List Int) (λ(q,a2,H)=>[(256,(.I q))]) (λ(q,a2,H) w'=>Sat w (e8.U [(4,ai b5 30 [v1,v3,v5,v7,v9,a2,b6]),(11,cL a2 3 (Kw.encI .i64) H)]) w'/\(H=kX a++(J q (kX b)).map (yA ((I a.tk:Nat):Int)))/\(I H<=I a.tk+q)) (λ(q,a2,H)=>I (kX b)-q) (0,p8,kX a) ⟨e8,bw,by have:=ec D;omega⟩ ?_;rintro⟨q,a2,H⟩ x5 ⟨A,hH,r4⟩;refine .W Y<|.ab Y (λ c7=>?_) λ c7=>?_
  ·refine .q<|.s ?_;obtain⟨x,hx⟩:=ut (kX b) q c7;have u0:=ec o;have u2:=Up o hx;refine .r<|.ix 0 ((A.bE 10 Y) (hb.E A.E)).1 Y<|.le 0 ((A.bE 10 Y) (hb.E A.E)).1 hx Y<|.Z Y<|.jn [0,1,2,3,4,8,9,10,11,12,13,14,15,16,17,37,38,39,254,255,256] Y (λ K L' w'=>Weak ([(19,(.I (yA ((I a.tk:Nat):Int) x)))]++K) L'/\Sat w A.L w') ?_ ?_
   ·refine .h<|.a 1 Y (.geq Y Y)<|.j<|.ab Y (λ c8=>?_) λ c8=>?_
    ·exact .r<|.a 2 Y (.add Y Y en)<|.Z Y ⟨⟨If some (If (Value.I) a3X),rfl,rfl,rfl,rfl,rfl,rfl,rfl,rfl,rfl,rfl,rfl,rfl,rfl,rfl,rfl,rfl,rfl,rfl,rfl,rfl,rfl,trivial⟩,A⟩
    exact .k ⟨⟨If some (If (Value.I) a3X),rfl,rfl,rfl,rfl,rfl,rfl,rfl,rfl,rfl,rfl,rfl,rfl,rfl,rfl,rfl,rfl,rfl,rfl,rfl,rfl,rfl,trivial⟩,A⟩
   rintro L' x6 ⟨m8,k3⟩;refine .weaken _ m8<|.r<|.ld 1 k3 4 Y<|.b 1 Y (.bS (Kw.encI .i64) (yA ((I a.tk:Nat):Int) x) bc Y k3 Y λ v0 _ k4 _=>?_);refine .ap 0 k4 11 (k4.aj 13 Y) Y (h1:=a4A) (h2:=a4A) λ p9 _ g0 _=>?_;have g0:=g0.pk [0,1,2,3,4,5,6,7,8,9,10,11,12];refine .st 1 g0 4 Y (h1:=(g0.aj 11 Y).ae) λ _ p7 _=>.j<|.U Y ?_;exact aP (q+1,p9,H++[(yA ((I a.tk:Nat):Int) x)]) ⟨p7,by rw[hH,vN hx,KW],ft⟩
  refine .aq<|.s ?_;have m3:H=kX a++(kX b).map (yA ((I a.tk:Nat):Int)):=by rw[hH,Xx O]
  refine .r<|.lo 0 A 4 Y<|.sa 0 A 2 (vs:=[v1,v3,v5,v7,v9,a2,b6]) Y (t8 ⟨(A.aj 3 Y).ae,(A.aj 5 Y).ae,(A.aj 6 Y).ae,(A.aj 7 Y).ae,(A.aj 8 Y).ae,(A.aj 11 Y).ae,(A.aj 12 Y).ae,trivial⟩) λ _ k5 _=>.Z Y<|.ret ?_;show aE _ _ _ _ _ _;refine gm (vs:=[v1,v3,v5,v7,v9,a2,b6]) Y Y Y fW (λ j u hu=>k5.cell (i:=2) Y hu) ?_;obtain⟨d,hF⟩:=(k5.pick [3,5,6,7,8,11,12] Y).rW 7 (Q:=λ w1=>RdC w1 a->RdC w1 b->RdC w1 (Co.mk v1 v3 v5 v7 v9 a2 b6 a.at_ (a.tk++b.tk) T R N H (mb a++mb b))) (λ w1 hA qa qb=>⟨hA.aj 0 Y,hA.aj 1 Y,hA.aj 2 Y,hA.aj 3 Y,hA.aj 4 Y,hA.aj 5 Y,hA.aj 6 Y,Ih (P:=λ s l=>RdL w1 s.val aw l) qa.tr qb.tr,a2R,a2S⟩);exact⟨(Co.mk v1 v3 v5 v7 v9 a2 b6 a.at_ (a.tk++b.tk) T R N H (mb a++mb b)),d,Y,⟨Y,Y,e5,e4,i2,.inl ⟨m5,m3,Y⟩⟩,hF⟩
 refine .k<|.h<|.lo 0 g 4 Y<|.sa 0 g 2 (vs:=[v1,v3,v5,v7,v9,.N,.N]) Y (t8 ⟨(g.aj 3 Y).ae,(g.aj 5 Y).ae,(g.aj 6 Y).ae,(g.aj 7 Y).ae,(g.aj 8 Y).ae,Y,Y,trivial⟩) λ _ k9 _=>.Z Y<|.ret ?_;show aE _ _ _ _ _ _;refine gm (vs:=[v1,v3,v5,v7,v9,.N,.N]) Y Y Y fW (λ j u hu=>k9.cell (i:=2) Y hu) ?_;obtain⟨d,hF⟩:=(k9.pick [3,5,6,7,8] Y).rW 5 (Q:=λ w1=>RdC w1 a->RdC w1 b->RdC w1 (Co.mk v1 v3 v5 v7 v9 Value.N Value.N a.at_ (a.tk++b.tk) T R N ([]) ([]))) (λ w1 hA qa qb=>⟨hA.aj 0 Y,hA.aj 1 Y,hA.aj 2 Y,hA.aj 3 Y,hA.aj 4 Y,RdL.nil _ _,RdL.nil _ _,Ih (P:=λ s l=>RdL w1 s.val aw l) qa.tr qb.tr,a2R,a2S⟩);exact⟨(Co.mk v1 v3 v5 v7 v9 Value.N Value.N a.at_ (a.tk++b.tk) T R N ([]) ([])),d,Y,⟨Y,Y,e5,e4,i2,.inr ⟨O,Y,Y⟩⟩,hF⟩
