/-The walks of the functions of F22m,printed by our own program (kwgen.py) out of our descriptions (base.py). -/
import Derived.Test.YtcgidfgdbhihbaaGreatDoorF22c
import Derived.Test.YtcgidfgdbhihbaaGreatDoorF06m
open List renaming length→I
open ByteArray renaming empty→wt,mk→ws
set_option linter.all false
set_option maxHeartbeats 20000000
set_option maxRecDepth 100000
open List hiding lt
open Go.Proofs.Tryz
namespace Go.Proofs.YtcgidfgdbhihbaaGreatDoor
open Go.RowKit Go.Kw
def tD{l m:List ByteArray}(H:∀ x∈l,x∈m){i:Nat}{x:ByteArray}(h:l[i]? =some x):x∈m:=H x (Xs h)
def Qc{x:ByteArray}(h:x∈xY):x∈[jf [115],jf [110,112],jf [116]]:=h
def kN{W w:World}{d:Chunk}{A cs:List Chunk}(s:Sat W ((d::A)++cs) w):Sat W (A++cs) w:=s.sub (a1k d (A++cs))
def Rw{N:Nat}{L:aA}{w W:World}{g m:Nat}{i:Chunk}{B cs:List Chunk}{K:aA->World->Prop}{o:List Oper}{j:List (World->Prop)}{p:Plan}{d:Option Nat}{X:List Operand}{A:Array TypeId}{ty:TypeId}{pos:String}{af:Array Edge}{q:Option (Nat×Bool)}
  (s:Sat W ((i::jq 50 W g::B)++cs) w) (t:pB L X=some [.P g,.I ((m:Nat):Int)]) (h1:1<=m) (h2:m<=1000000)
  (l:∀ (k:Nat) (w':World),k<m->Sat W ((i::jq 50 W g::B)++cs) w'->Sat W ((jq 50 W g::B)++cs) w'->RP prog N o ((λ u=>Sat W ((jq 50 W g::B)++cs) u)::j) p K (putK d (.I (k:Int)) L) w'):
  OpE prog N L w ⟨d,.call ⟨.value (.func 14),X.toArray,A⟩,ty,pos,af,q⟩ (λ v w'=>∃ T:World->Prop,(∀ u,T u->Sat W ((jq 50 W g::B)++cs) u)/\T w'/\RP prog N o (T::j) p K (putK d v L) w'):=
 .call rV t ((aN W w (i::(B++cs)) g m (s.perm (.swap _ _ _)) h1 h2).mono λ r w' h=>by
  obtain⟨k,rfl,H,h⟩:=h;have h:Sat W ((i::jq 50 W g::B)++cs) w':=h.perm (.swap _ _ _);exact lB (kN h) (l k w' H h (kN h)))
def NO{N:Nat}{L:aA}{w W:World}{g:Chunk}{A cs:List Chunk}{K:aA->World->Prop}{o:List Oper}{j:List (World->Prop)}{p:Plan}{d:Option Nat}{m:Nat}{parts:List (Nat×Operand)}{vs:List (Nat×Value)}{ty:TypeId}{pos:String}{af:Array Edge}{q:Option (Nat×Bool)}{t e b:Nat}{z:Value}
  (l:List ByteArray) (s:Sat W ((g::A)++cs) w) (y:SlTy prog t e 1 z b) (P:du L parts=some vs) (h1:oo vs) (i:z.oneCell'=true) (E:Kw.setArr vs (List.replicate m z)=some (aw.all l)) (D:I l=m) (H:(Nat.blt 0 m&&Nat.ble m 16777216)=true)
  (r:∀ (v:Value) (w':World),Sat W ((g::(A++[cL v e aw l]))++cs) w'->Sat W ((A++[cL v e aw l])++cs) w'->RP prog N o ((λ u=>Sat W ((A++[cL v e aw l])++cs) u)::j) p K (putK d v L) w'):
  OpE prog N L w ⟨d,.buildSlice t m parts.toArray,ty,pos,af,q⟩ (λ v w'=>∃ T:World->Prop,(∀ u,T u->Sat W (A++cs) u)/\T w'/\RP prog N o (T::j) p K (putK d v L) w'):=by
 simp only[Xz,Nat.ble_eq,a05]at H;exact .gh aw l y P h1 i E D Y O H.2 s λ v w' h _=>by
  have h:Sat W ((g::(A++[cL v e aw l]))++cs) w':=h.perm (by
   simp only[Zc,KW];exact(ZP.append_left A).cons g)
  have k:=kN h;exact⟨_,λ u (Q:Sat W ((A++[cL v e aw l])++cs) u)=>Q.sub (by rw[KW];exact(sublist_append_right _ _).append_left A),k,r v w' h k⟩
abbrev w2:List ByteArray:=[(ws #[119,111,114,100]),(ws #[116,97,103])]
abbrev w3:List ByteArray:=[(ws #[119,111,114,100]),(ws #[119,111,114,100]),(ws #[116,97,103])]
abbrev w8:List ByteArray:=[(ws #[97]),(ws #[98]),(ws #[97,46,42]),(ws #[91,97,98,93]),(ws #[88]),(ws #[]),(ws #[99,63]),(ws #[97,124,98])]
abbrev Xh:List ByteArray:=[(ws #[49]),(ws #[50])]
def CH(p:World)(g:Nat)(v:Value)(d:Nat)(hd:d<=3)(IH:∀ e,e<d->∀ (w:World) (cs:List Chunk),Sat p ([jq 50 p g,cL v 9 aw [(ws #[120])]]++cs) w->t6 16 [.P g,.I ((e:Nat):Int),v] w λ r E=>∃ (c:Cd) (y:Cn) (l:List Nat),r=aX.ag y/\GdC true c/\c.sz<2^(e+1)/\c.dp<=e/\Sat p ([jq 50 p g,cL v 9 aw [(ws #[120])],fK l (λ o=>RdCd o c y)]++cs) E)(w:World)(cs:List Chunk)(hs:Sat p ([jq 50 p g,cL v 9 aw [(ws #[120])]]++cs) w):
  t6 16 [(.P g),(.I d),v] w λ r E=>∃ (c:Cd) (y:Cn) (l:List Nat),r=aX.ag y/\GdC true c/\c.sz<2^(d+1)/\c.dp<=d/\Sat p ([jq 50 p g,cL v 9 aw [(ws #[120])],fK l (λ o=>RdCd o c y)]++cs) E:=by
 refine aa func16 Y Y<|.h<|.al 0 hs Y λ b1 _ s1 _ _=>have o2:=s1.mn;.j<|.h<|.z 1 Y<|have A1:=o2.oc [0,1,2] 1;.c 0 (aN _ _ _ _ 12 A1 O O) Y ?_;rintro _ _ ⟨h0,rfl,x9,p1⟩;have s2:=p1.join.od [0,1,2];refine .Z Y<|.jn [0,1,2,6] Y (λ K A E=>∃ (m:Nat),Weak ([(7,(.I m))]++K) A/\Sat p s2.L E/\(m<12)/\(m<8\/1<=d)) ?_ ?_
 ·refine .Z Y<|.ab Y (λ c1=>?_) λ c1=>?_
  ·exact .r<|.a 1 Y (.rem (b:=8) Y Y O)<|.Z Y ⟨(h0%8),(wk Y),s2,O,O⟩
  exact .k ⟨h0,(wk Y),s2,O,O⟩
 rintro A B3 ⟨m,k3,s3,hm,z6⟩;refine .weaken _ k3<|.s<|.V Y<|.jn [0,1,2,6,7,15] Y (λ K A E=>Weak ([(16,(.bool (decide (m<=3))))]++K) A/\Sat p s3.L E) ?_ ?_
 ·refine .Z Y<|.ab Y (λ c2=>?_) λ c2=>?_
  ·exact .k ⟨⟨If some (If Value.bool (Ym.2 O)),Y,Y,Y,Y,Y,Y,trivial⟩,s3⟩
  refine .Z Y<|.ab Y (λ c3=>?_) λ c3=>?_
  ·exact .k ⟨⟨If some (If Value.bool (Ym.2 O)),Y,Y,Y,Y,Y,Y,trivial⟩,s3⟩
  refine .Z Y<|.ab Y (λ c4=>?_) λ c4=>?_
  ·exact .k ⟨⟨If some (If Value.bool (Ym.2 O)),Y,Y,Y,Y,Y,Y,trivial⟩,s3⟩
  exact .U Y ⟨⟨If some (If Value.bool (Ym.2 O)),Y,Y,Y,Y,Y,Y,trivial⟩,s3⟩
 rintro A B4 ⟨k4,s4⟩;refine .weaken _ k4<|.ab Y (λ c5=>?_) λ c5=>?_
 ·refine .s<|.sR (λ A E=>∃ (x:ByteArray) (y:ByteArray) (q:Bool),Weak [(6,(.P b1))] A/\Sat p ([jq 50 p g,cL v 9 aw ([(ws #[120])]),ai b1 36 [(.I (2:Nat)),(.string x),(.string wt),(.string y),(.string wt),(.bool q),.N]]++cs) E/\(∃ i:Nat,w3[i]? =some x)/\(∃ i:Nat,w8[i]? =some y)) ?_ ?_
  ·refine .dt [0,1] s4 Y (pl [1,6,10] (.three 0 2 5 (.two 2 5 (pl [3,4] (.two 5 7 (pl [1007,8,9,1011,12,13,1014] .fin) (.two 5 11 (pl [8,9,1011,12,13,1014] .fin) (pl [12,1005,8,9,13,1014] .fin)))) (pl [1002,3,4,1007,8,9,1011,12,13,1014] .fin)) (.three 0 5 7 (pl [3,4] (.two 5 7 (pl [1007,8,9,1011,12,13,1014] .fin) (.two 5 11 (pl [8,9,1011,12,13,1014] .fin) (pl [12,1005,8,9,13,1014] .fin)))) (.two 0 7 (pl [3,4,1007,8,9,1011,12,13,1014] .fin) (pl [8,9] (.two 0 11 (pl [3,4,1011,12,13,1014] .fin) (pl [12,1000,3,4,13,1014] .fin)))) (.three 0 5 11 (pl [3,4] (.two 5 11 (pl [8,9,1011,12,13,1014] .fin) (pl [12,1005,8,9,13,1014] .fin))) (pl [8,9] (.two 0 11 (pl [3,4,1011,12,13,1014] .fin) (pl [12,1000,3,4,13,1014] .fin))) (pl [12] (.two 0 5 (pl [3,4,1005,8,9,13,1014] .fin) (pl [8,9,1000,3,4,13,1014] .fin))))) (.two 0 2 (pl [1002,3,4,1007,8,9,1011,12,13,1014] .fin) (.two 0 7 (pl [3,4,1007,8,9,1011,12,13,1014] .fin) (pl [8,9] (.two 0 11 (pl [3,4,1011,12,13,1014] .fin) (pl [12,1000,3,4,13,1014] .fin))))))) λ s5 S1=>?_;have s:Sat p ((_::jq 50 p g::_)++cs) _:=Sat.ordN [2,0,1] bl s5 Y Y;have t:=kN s
   repeat' first
    |refine .DP Y ?_ ?_ ?_
    |refine .vH Y Y Y Y Y Y ?_ ?_
    |(refine Rw s Y bw bw λ k w hk s t=>?_)
    |(refine NO w3 s bI Y ⟨Y,Y,Y,trivial⟩ Y Y Y Y λ v w s t=>?_)
    |(refine NO w8 s bI Y ⟨Y,Y,Y,Y,Y,Y,Y,Y,trivial⟩ Y Y Y Y λ v w s t=>?_)
    |(refine .ix 0 t (·.aj 2 Y) Y ?_ a0D)
    |(refine .ix 0 t (·.aj 3 Y) Y ?_ a0D)
    |(refine .le 0 t (·.aj 2 Y) (py a0D) Y ?_)
    |(refine .le 0 t (·.aj 3 Y) (py a0D) Y ?_)
    |(refine .z 1 t Y ?_)
    |(refine .ev Y Y Y (λ _ _=>.build wq Y ⟨Y,Y,Y,Y,trivial⟩ Y) t ?_)
    |(refine .bo (vs:=[_,_,_,_,_,_,_]) gW s (i:=0) Y a0M Y Y t7 λ w s _=>?_;have s:=s.Q2 Y Y;refine lB (kN s) ?_)
    |(refine .fin ?_;exact⟨_,_,_,wk Y,(Sat.ordN [1,2,0,3,4] bl s Y Y).gZ [0,1,2] Y,⟨_,py a0D⟩,⟨_,py a0D⟩⟩)
    |refine .zj Y Y Y ?_
    |fail
  rintro A w5 ⟨x,y,q,k5,s6,hx,hy⟩;refine .weaken _ k5<|.ret ?_;show aE _ _ _ _ _ _;refine cx (vs:=[(.I (2:Nat)),(.string x),(.string wt),(.string y),(.string wt),(.bool q),.N]) Y Y gW (λ j u N=>s6.cell (i:=2) Y N) ?_;obtain⟨i,hx⟩:=hx;obtain⟨j,hy⟩:=hy;have s7:=s6.pt [0,1];have s8:=s7.gA (Q:=λ o=>RdCd o (.lf 2 x wt y wt q) (⟨2,x,wt,y,wt,q,⟨none,0,0⟩⟩:Cn)) (λ o=>⟨Y,RdL.nil _ _⟩);have s9:=(s8.od [1,2,0]);exact⟨.lf 2 x wt y wt q,(⟨2,x,wt,y,wt,q,⟨none,0,0⟩⟩:Cn),[],Y,.inl ⟨Y,.inr (.inl ⟨Y,(tD a3a hx),Y,tD a3U hy⟩)⟩,Zq (ZH _),KD _,s9⟩
 refine .Z Y<|.ab Y (λ c6=>?_) λ c6=>?_
 ·refine .h<|.f Y (.gh aw [(ws #[112]),(ws #[113])] bI Y ⟨Y,Y,trivial⟩ Y Y Y Y bl bl s4 λ v1 _ m9 _=>have h3:=m9.mn;.z 1 Y<|have A2:=h3.oc [0,1,2,3] 1;.c 0 (aN _ _ _ _ 2 A2 O O) Y ?_);rintro _ _ ⟨h1,rfl,y2,p2⟩;have g4:=p2.join.od [0,1,2,3];refine .ix 0 (g4.aj 3 Y) Y (hj:=cf) ?_;obtain⟨P,a4⟩:∃ x,([(ws #[112]),(ws #[113])]:List ByteArray)[h1]? =some x:=⟨_,py (show h1<2 by omega)⟩;refine .le 0 (g4.aj 3 Y) a4 Y<|.e Y (.build wq Y ⟨Y,Y,Y,trivial⟩ Y)<|.sa 0 g4 2 (vs:=[(.I (3:Nat)),(.string (ws #[102,101,97,116])),(.string wt),(.string P),(.string wt),(.bool false),.N]) Y t7 λ _ n2 _=>have b4:=n2.sn;.j<|.ret ?_;show aE _ _ _ _ _ _;exact cx (vs:=[(.I (3:Nat)),(.string (ws #[102,101,97,116])),(.string wt),(.string P),(.string wt),(.bool false),.N]) Y Y gW (λ j u N=>b4.cell (i:=2) Y N)<|have n3:=b4.pt [0,1];have n5:=n3.gA (Q:=λ o=>RdCd o (.lf 3 (ws #[102,101,97,116]) wt P wt false) (⟨3,(ws #[102,101,97,116]),wt,P,wt,false,⟨none,0,0⟩⟩:Cn)) (λ o=>⟨Y,RdL.nil _ _⟩);have n6:=(n5.od [1,2,0]);⟨.lf 3 (ws #[102,101,97,116]) wt P wt false,(⟨3,(ws #[102,101,97,116]),wt,P,wt,false,⟨none,0,0⟩⟩:Cn),[],Y,.inl ⟨Y,.inr (.inr (.inl ⟨Y,a3a,Y,tD a3a a4,Y⟩))⟩,Zq (ZH _),KD _,n6⟩
 refine .Z Y<|.ab Y (λ c7=>?_) λ c7=>?_
 ·refine .s<|.h<|.a 1 Y (.re Y (Ev.TT underlying28 Y (s4.aj 1 Y)))<|.Z Y<|.cc Y (LW bl)<|.s<|.sR (λ A E=>∃ (x:ByteArray) (y:ByteArray) (z:ByteArray),Weak [(6,(.P b1))] A/\Sat p ([jq 50 p g,cL v 9 aw ([(ws #[120])]),ai b1 36 [(.I (4:Nat)),(.string x),(.string y),(.string wt),(.string z),(.bool false),.N]]++cs) E) ?_ ?_
  ·refine .dt [0,1] s4 Y (pl [1,5,6,7,8,13] (.three 0 2 12 (.two 2 12 (pl [3,4] (.two 9 12 (pl [10,11] (.two 12 14 (pl [1014,15,16,17,1018] .fin) (pl [1012,15,16,17,1018] .fin))) (pl [1009,10,11,1014,15,16,17,1018] .fin))) (pl [1002,3,4,1009,10,11,1014,15,16,17,1018] .fin)) (.three 0 9 12 (pl [3,4] (.two 9 12 (pl [10,11] (.two 12 14 (pl [1014,15,16,17,1018] .fin) (pl [1012,15,16,17,1018] .fin))) (pl [1009,10,11,1014,15,16,17,1018] .fin))) (pl [10,11] (.three 0 12 14 (pl [3,4] (.two 12 14 (pl [1014,15,16,17,1018] .fin) (pl [1012,15,16,17,1018] .fin))) (.two 0 14 (pl [3,4,1014,15,16,17,1018] .fin) (pl [15,16,1000,3,4,17,1018] .fin)) (.two 0 12 (pl [3,4,1012,15,16,17,1018] .fin) (pl [15,16,1000,3,4,17,1018] .fin)))) (.two 0 9 (pl [3,4,1009,10,11,1014,15,16,17,1018] .fin) (pl [10,11] (.two 0 14 (pl [3,4,1014,15,16,17,1018] .fin) (pl [15,16,1000,3,4,17,1018] .fin))))) (.two 0 2 (pl [1002,3,4,1009,10,11,1014,15,16,17,1018] .fin) (.two 0 9 (pl [3,4,1009,10,11,1014,15,16,17,1018] .fin) (pl [10,11] (.two 0 14 (pl [3,4,1014,15,16,17,1018] .fin) (pl [15,16,1000,3,4,17,1018] .fin))))))) λ n7 S2=>?_;have s:Sat p ((_::jq 50 p g::_)++cs) _:=Sat.ordN [2,0,1] bl n7 Y Y;have t:=kN s
   repeat' first
    |refine .DP Y ?_ ?_ ?_
    |refine .vH Y Y Y Y Y Y ?_ ?_
    |(refine Rw s Y bw bw λ k w hk s t=>?_)
    |(refine NO w2 s bI Y ⟨Y,Y,trivial⟩ Y Y Y Y λ v w s t=>?_)
    |(refine .ix 0 t (·.aj 1 Y) Y ?_ a0D)
    |(refine .ix 0 t (·.aj 2 Y) Y ?_ a0D)
    |(refine .ix 0 t (·.aj 3 Y) Y ?_ a0D)
    |(refine .le 0 t (·.aj 1 Y) (py a0D) Y ?_)
    |(refine .le 0 t (·.aj 2 Y) (py a0D) Y ?_)
    |(refine .le 0 t (·.aj 3 Y) (py a0D) Y ?_)
    |(refine .ln 0 t (·.aj 1 Y) Y ?_)
    |(refine .z 1 t Y ?_)
    |(refine .ev Y Y Y (λ _ _=>.build wq Y ⟨Y,Y,Y,Y,trivial⟩ Y) t ?_)
    |(refine .bo (vs:=[_,_,_,_,_,_,_]) gW s (i:=0) Y a0M Y Y t7 λ w s _=>?_;have s:=s.Q2 Y Y;refine lB (kN s) ?_)
    |(refine .fin ?_;exact⟨_,_,_,wk Y,(Sat.ordN [1,2,0,3,4] bl s Y Y).gZ [0,1,2] Y⟩)
    |refine .zj Y Y Y ?_
    |fail
  rintro A w9 ⟨x,y,z,k9,h4⟩;refine .weaken _ k9<|.ret ?_;show aE _ _ _ _ _ _;exact cx (vs:=[(.I (4:Nat)),(.string x),(.string y),(.string wt),(.string z),(.bool false),.N]) Y Y gW (λ j u N=>h4.cell (i:=2) Y N)<|have n8:=h4.pt [0,1];have o1:=n8.gA (Q:=λ o=>RdCd o (.lf 4 x y wt z false) (⟨4,x,y,wt,z,false,⟨none,0,0⟩⟩:Cn)) (λ o=>⟨Y,RdL.nil _ _⟩);have q0:=(o1.od [1,2,0]);⟨.lf 4 x y wt z false,(⟨4,x,y,wt,z,false,⟨none,0,0⟩⟩:Cn),[],Y,.inr ⟨Y,Y⟩,Zq (ZH _),KD _,q0⟩
 refine .jn [0,1,2,6,7,15] Y (λ K A E=>Weak ([(67,(.bool (decide (m=6\/m=7))))]++K) A/\Sat p s4.L E) ?_ ?_
 ·refine .Z Y<|.ab Y (λ c8=>?_) λ c8=>?_
  ·exact .k ⟨⟨If some (If Value.bool (Ym.2 O)),Y,Y,Y,Y,Y,Y,trivial⟩,s4⟩
  exact .U Y ⟨⟨If some (If Value.bool (Ym.2 O)),Y,Y,Y,Y,Y,Y,trivial⟩,s4⟩
 rintro A B0 ⟨l2,a3⟩;refine .weaken _ l2<|.ab Y (λ c9=>?_) λ c9=>?_
 ·refine .h<|.z 1 Y<|have A3:=a3.oc [0,1,2] 1;.c 0 (aN _ _ _ _ 3 A3 O O) Y ?_;rintro _ _ ⟨m7,rfl,z0,p3⟩;have q1:=p3.join.od [0,1,2];refine .c 0 (DS m7 _ O) Y ?_;rintro _ _ ⟨W,rfl,b3,p4⟩;have q2:=(q1.ay p4).aH;refine .e Y (.build wq Y ⟨Y,Y,trivial⟩ Y)<|.al 0 q2 Y λ b2 _ q3 _ _=>have h5:=q3.mn;.sa 0 h5 3 (vs:=[(.I (5:Nat)),(.string W),(.string wt),(.string wt),(.string wt),(.bool false),.N]) Y t7 λ _ q4 _=>have h7:=q4.sn;.j<|.s<|.h<|.z 1 Y<|have A4:=h7.oc [0,1,2,3] 1;.c 0 (aN _ _ _ _ 2 A4 O O) Y ?_;rintro _ _ ⟨z9,rfl,z1,p5⟩;have g5:=p5.join.od [0,1,2,3];refine .Z Y<|.ab Y (λ i7=>?_) λ i7=>?_
  ·refine .sR (λ A E=>∃ (y:ByteArray),Weak [(6,(.P b1)),(8,(.P b2))] A/\Sat p ([jq 50 p g,cL v 9 aw ([(ws #[120])]),ai b1 36 [(.I (0:Nat)),(.string wt),(.string wt),(.string wt),(.string wt),(.bool false),.N],ai b2 36 [(.I (5:Nat)),(.string W),(.string (ws #[110])),(.string y),(.string wt),(.bool false),.N]]++cs) E/\(∃ i:Nat,Xh[i]? =some y)) ?_ ?_
   ·refine .dt [0,1,2] g5 Y (pl [1,5] (.two 0 2 (pl [1002,3,4,1006,7,1008] .fin) (.two 0 6 (pl [3,4,1006,7,1008] .fin) (pl [1000,3,4,7,1008] .fin)))) λ h8 S3=>.z 2 S3 Y<|have A5:=h8.oc [0,1,2,3] 1;.vH Y Y Y Y Y Y (OpE.gh aw [(ws #[49]),(ws #[50])] bI Y ⟨Y,Y,trivial⟩ Y Y Y Y bl bl h8 λ v2 _ q5 _=>?_) (OpE.call rV Y ((aN _ _ _ _ 2 A5 O O).mono λ r6 _ h6=>?_))
    ·have b5:=q5.mn;have S4:=b5.pt [0,1,2,4];refine jl [0,1,2] S4 Y<|have A6:=b5.oc [0,1,2,3,4] 1;.c 0 S4 (aN _ _ _ _ 2 A6 O O) Y ?_;rintro _ _ ⟨h2,rfl,z3,p7⟩;have h9:=p7.join.od [0,1,2,3,4];have S5:=h9.pt [0,1,2,4];refine⟨S5,?_⟩;refine .ix 0 S5 (·.aj 3 Y) Y (hj:=cf) ?_;obtain⟨m4,a5⟩:∃ x,([(ws #[49]),(ws #[50])]:List ByteArray)[h2]? =some x:=⟨_,py (show h2<2 by omega)⟩;refine .le 0 S5 (·.aj 3 Y) a5 Y<|.f Y (.aG mC h9 (i:=3) Y Y Y Y Y λ _ q6 _=>have b6:=q6.sn;have S6:=b6.pt [0,1,2,4];⟨S6,?_⟩);refine .z 1 S6 Y<|.f Y (.aG mC b6 (i:=3) Y Y Y Y Y λ _ q7 _=>have b7:=q7.sn;have S7:=b7.pt [0,1,2,4];⟨S7,?_⟩);exact .fin<|have q8:=b7.pt [0,1,2,3];⟨m4,(wk Y),q8,⟨_,a5⟩⟩
    obtain⟨a2,rfl,z2,p6⟩:=h6;have g6:=p6.join.od [0,1,2,3];have S8:=g6.pt [0,1,2];refine lB S8<|.vH Y Y Y Y Y Y (OpE.gh aw [(ws #[49]),(ws #[50])] bI Y ⟨Y,Y,trivial⟩ Y Y Y Y bl bl g6 λ v3 _ q9 _=>?_) (OpE.aG mC g6 (i:=3) Y Y Y Y Y λ _ r0 _=>?_)
    ·have c0:=q9.mn;have S9:=c0.pt [0,1,2,4];refine jl [0,1,2] S9 Y<|.ix 0 S9 (·.aj 3 Y) Y (hj:=cf) ?_;obtain⟨m5,a6⟩:∃ x,([(ws #[49]),(ws #[50])]:List ByteArray)[a2]? =some x:=⟨_,py (show a2<2 by omega)⟩;refine .le 0 S9 (·.aj 3 Y) a6 Y<|.f Y (.aG mC c0 (i:=3) Y Y Y Y Y λ _ r1 _=>have e1:=r1.sn;have g8:=e1.pt [0,1,2,4];⟨g8,?_⟩);refine .z 1 g8 Y<|.f Y (.aG mC e1 (i:=3) Y Y Y Y Y λ _ r2 _=>have e2:=r2.sn;have i4:=e2.pt [0,1,2,4];⟨i4,?_⟩);exact .fin<|have r3:=e2.pt [0,1,2,3];⟨m5,(wk Y),r3,⟨_,a6⟩⟩
    have e0:=r0.sn;have i5:=e0.pt [0,1,2];refine lB i5<|.zj Y Y Y (OpE.gh aw [(ws #[49]),(ws #[50])] bI Y ⟨Y,Y,trivial⟩ Y Y Y Y bl bl e0 λ A0 _ r4 _=>have e3:=r4.mn;have a0:=e3.pt [0,1,2,4];jl [0,1,2] a0 Y<|.ix 0 a0 (·.aj 3 Y) Y (hj:=cf) ?_);obtain⟨m6,a9⟩:∃ x,([(ws #[49]),(ws #[50])]:List ByteArray)[a2]? =some x:=⟨_,py (show a2<2 by omega)⟩;refine .le 0 a0 (·.aj 3 Y) a9 Y<|.z 1 a0 Y<|.f Y (.aG mC e3 (i:=3) Y Y Y Y Y λ _ r5 _=>have e4:=r5.sn;have i6:=e4.pt [0,1,2,4];⟨i6,?_⟩);exact .fin<|have r7:=e4.pt [0,1,2,3];⟨m6,(wk Y),r7,⟨_,a9⟩⟩
   rintro A B1 ⟨y,m0,i0,hy⟩;refine .weaken _ m0<|.h<|.lo 0 i0 3 Y<|.sa 0 i0 2 (vs:=[(.I (5:Nat)),(.string W),(.string (ws #[110])),(.string y),(.string wt),(.bool false),.N]) Y t7 λ _ r8 _=>have e5:=r8.sn;.j<|.ret ?_;show aE _ _ _ _ _ _;refine cx (vs:=[(.I (5:Nat)),(.string W),(.string (ws #[110])),(.string y),(.string wt),(.bool false),.N]) Y Y gW (λ j u N=>e5.cell (i:=2) Y N) ?_;obtain⟨j,hy⟩:=hy;have r9:=e5.pt [0,1];have s0:=r9.gA (Q:=λ o=>RdCd o (.lf 5 W (ws #[110]) y wt false) (⟨5,W,(ws #[110]),y,wt,false,⟨none,0,0⟩⟩:Cn)) (λ o=>⟨Y,RdL.nil _ _⟩);have u0:=(s0.od [1,2,0]);exact⟨.lf 5 W (ws #[110]) y wt false,(⟨5,W,(ws #[110]),y,wt,false,⟨none,0,0⟩⟩:Cn),[],Y,.inl ⟨Y,.inr (.inr (.inr ⟨Y,Qc b3,Y,.inr ⟨a3a,tD a3a hy⟩⟩))⟩,Zq (ZH _),KD _,u0⟩
  refine .k<|.h<|.lo 0 g5 3 Y<|.sa 0 g5 2 (vs:=[(.I (5:Nat)),(.string W),(.string wt),(.string wt),(.string wt),(.bool false),.N]) Y t7 λ _ u1 _=>have e6:=u1.sn;.j<|.ret ?_;show aE _ _ _ _ _ _;exact cx (vs:=[(.I (5:Nat)),(.string W),(.string wt),(.string wt),(.string wt),(.bool false),.N]) Y Y gW (λ j u N=>e6.cell (i:=2) Y N)<|have u2:=e6.pt [0,1];have u8:=u2.gA (Q:=λ o=>RdCd o (.lf 5 W wt wt wt false) (⟨5,W,wt,wt,wt,false,⟨none,0,0⟩⟩:Cn)) (λ o=>⟨Y,RdL.nil _ _⟩);have v0:=(u8.od [1,2,0]);⟨.lf 5 W wt wt wt false,(⟨5,W,wt,wt,wt,false,⟨none,0,0⟩⟩:Cn),[],Y,.inl ⟨Y,.inr (.inr (.inr ⟨Y,Qc b3,Y,.inl ⟨Y,Y⟩⟩))⟩,Zq (ZH _),KD _,v0⟩
 refine .jn [0,1,2,6,7,15] Y (λ K A E=>Weak ([(85,(.bool (decide (m=8\/m=9))))]++K) A/\Sat p a3.L E) ?_ ?_
 ·refine .Z Y<|.ab Y (λ i8=>?_) λ i8=>?_
  ·exact .k ⟨⟨If some (If Value.bool (Ym.2 O)),Y,Y,Y,Y,Y,Y,trivial⟩,a3⟩
  exact .U Y ⟨⟨If some (If Value.bool (Ym.2 O)),Y,Y,Y,Y,Y,Y,trivial⟩,a3⟩
 rintro A B2 ⟨m1,i1⟩;refine .weaken _ m1<|.ab Y (λ i9=>?_) λ i9=>?_
 ·refine .h<|.z 4 Y<|have A7:=i1.oc [0,1,2] 2;.c 0 (IH (d-1) O _ _ A7) Y ?_;rintro _ _ ⟨D,g3,m2,rfl,H,g1,g0,p8⟩;have v7:=p8.join.od [0,1,3,2];refine .f Y (.bO aX g3 HN bl bl v7 Y λ v5 _ v8 _=>have T:=v8.mn;.e Y (.build wq Y ⟨Y,(T.aj 4 Y).ae,trivial⟩ Y)<|.sa 0 T 2 (vs:=[(.I (6:Nat)),(.string wt),(.string wt),(.string wt),(.string wt),(.bool false),v5]) Y (t8 ⟨Y,Y,Y,Y,Y,Y,(T.aj 4 Y).ae,trivial⟩) λ _ v9 _=>have e7:=v9.sn;.j<|.ret ?_);show aE _ _ _ _ _ _;refine cx (vs:=[(.I (6:Nat)),(.string wt),(.string wt),(.string wt),(.string wt),(.bool false),v5]) Y Y gW (λ j u N=>e7.cell (i:=2) Y N) ?_;have i2:=(e7.od [4,3,0,1,2]).pt [0,1,2,3];obtain⟨g7,R,g9⟩:=(i2.aj 0 Y).sv;subst R;have k2:2^(d+1)=2*2^(d-1+1):=a4w
  have w6:=i2.pt [0,1,2,3];obtain⟨z4,w7⟩:=w6.fu 2 (Q:=λ o=>RdCd o (Cd.nt D) (⟨6,wt,wt,wt,wt,false,g7⟩:Cn)) Y Y (λ o hA=>⟨Y,_,hA.aj 0 Y,hA.bE 1 Y⟩);have x1:=(w7.od [1,2,0]);exact⟨Cd.nt D,_,_,Y,H,show D.sz+1<_ by omega,show D.dp+1<=_ by omega,x1⟩
 refine .k<|.h<|.z 7 Y<|have A8:=i1.oc [0,1,2] 2;.c 0 (IH (d-1) O _ _ A8) Y ?_;rintro _ _ ⟨D,g3,m2,rfl,H,g1,g0,p9⟩;have x2:=p9.join.od [0,1,3,2];refine .z 4 Y<|have A9:=x2.oc [0,1,2,3] 2;.c 0 (IH (d-1) O _ _ A9) Y ?_;rintro _ _ ⟨a1,m3,z7,rfl,g2,k1,k0,m8⟩;have x3:=m8.join.od [0,1,3,4,2];refine .f Y (.VS aX g3 m3 HN (m:=7) Y bl bl x3 Y Y λ v6 _ x4 _=>have X:=x4.mn;.e Y (.build wq Y ⟨Y,(X.aj 5 Y).ae,trivial⟩ Y)<|.sa 0 X 2 (vs:=[(.I (((7+m)-10):Nat)),(.string wt),(.string wt),(.string wt),(.string wt),(.bool false),v6]) Y (t8 ⟨Y,Y,Y,Y,Y,Y,(X.aj 5 Y).ae,trivial⟩) λ _ x5 _=>have e8:=x5.sn;.j<|.ret ?_);show aE _ _ _ _ _ _;refine cx (vs:=[(.I (((7+m)-10):Nat)),(.string wt),(.string wt),(.string wt),(.string wt),(.bool false),v6]) Y Y gW (λ j u N=>e8.cell (i:=2) Y N) ?_;have i3:=(e8.od [5,3,4,0,1,2]).pt [0,1,2,3,4];obtain⟨g7,R,g9⟩:=(i3.aj 0 Y).sv;subst R;have k2:2^(d+1)=2*2^(d-1+1):=a4w
 have x6:=i3.pt [0,1,2,3,4];obtain⟨z5,x7⟩:=x6.fu 3 (Q:=λ o=>RdCd o (Cd.bi ((((7+m)-10):Nat):Int) D a1) (⟨((((7+m)-10):Nat):Int),wt,wt,wt,wt,false,g7⟩:Cn)) Y Y (λ o hA=>⟨Y,_,_,hA.aj 0 Y,hA.bE 1 Y,hA.bE 2 Y⟩);have x8:=(x7.od [1,2,0]);exact⟨Cd.bi ((((7+m)-10):Nat):Int) D a1,_,_,Y,⟨O,H,g2⟩,show D.sz+a1.sz+1<_ by omega,show max D.dp a1.dp+1<=_ by omega,x8⟩
def NP(W:World)(g:Nat)(v:Value):∀ d,d<=3->∀ (w:World) (cs:List Chunk),Sat W ([jq 50 W g,cL v 9 aw [(ws #[120])]]++cs) w->t6 16 [.P g,.I ((d:Nat):Int),v] w λ r k=>∃ (c:Cd) (y:Cn) (i:List Nat),r=aX.ag y/\GdC true c/\c.sz<2^(d+1)/\c.dp<=d/\Sat W ([jq 50 W g,cL v 9 aw [(ws #[120])],fK i (λ l=>RdCd l c y)]++cs) k:=by
 intro d;induction d using Nat.strongRecOn with
 |_ d j=>exact λ hd w cs H=>CH W g v d hd (λ e he w cs H=>j e he O w cs H) w cs H
abbrev w4:List ByteArray:=[(ws #[97]),(ws #[98]),(ws #[97,46,42]),(ws #[91,97,98,93])]
def Ry(W w:World)(g:Nat)(v:Value)(cs:List Chunk)(hs:Sat W ([jq 50 W g,cL v 9 aw [(ws #[120])]]++cs) w):
  t6 6 [(.P g),(.I (3:Nat)),v] w λ r T=>∃ (c:Cd) (y:Cn) (d:List Nat),r=aX.ag y/\GdC true c/\c.sz<2^(3+1)/\c.dp<=3/\Sat W ([jq 50 W g,cL v 9 aw [(ws #[120])],fK d (λ D=>RdCd D c y)]++cs) T:=by
 refine aa func6 Y Y<|.h<|.al 0 hs Y λ b1 _ s1 _ _=>have b4:=s1.mn;.j<|.s<|.h<|.z 1 Y<|have A1:=b4.oc [0,1,2] 1;.c 0 (aN _ _ _ _ 8 A1 O O) Y ?_;rintro _ _ ⟨P,rfl,b5,p1⟩;have X:=p1.join.od [0,1,2];refine .j<|.l<|.Z Y<|.ab Y (λ c1=>?_) λ c1=>?_
 ·refine .h<|.e Y (.build wq Y ⟨Y,trivial⟩ Y)<|.sa 0 X 2 (vs:=[(.I (1:Nat)),(.string wt),(.string wt),(.string wt),(.string wt),(.bool false),.N]) Y t7 λ _ s3 _=>have R:=s3.sn;.j<|.ret ?_;show aE _ _ _ _ _ _;exact cx (vs:=[(.I (1:Nat)),(.string wt),(.string wt),(.string wt),(.string wt),(.bool false),.N]) Y Y gW (λ j u N=>R.cell (i:=2) Y N)<|have s4:=R.pt [0,1];have s5:=s4.gA (Q:=λ D=>RdCd D (.lf 1 wt wt wt wt false) (⟨1,wt,wt,wt,wt,false,⟨none,0,0⟩⟩:Cn)) (λ D=>⟨Y,RdL.nil _ _⟩);have s6:=(s5.od [1,2,0]);⟨.lf 1 wt wt wt wt false,(⟨1,wt,wt,wt,wt,false,⟨none,0,0⟩⟩:Cn),[],Y,.inl yH,Zq (ZH _),KD _,s6⟩
 refine .jn [0,1,2,6,8] Y (λ K E T=>Weak ([(12,(.bool (decide (P=1\/P=2))))]++K) E/\Sat W X.L T) ?_ ?_
 ·refine .Z Y<|.ab Y (λ c2=>?_) λ c2=>?_
  ·exact .k ⟨⟨If some (If Value.bool (Ym.2 O)),Y,Y,Y,Y,Y,trivial⟩,X⟩
  exact .U Y ⟨⟨If some (If Value.bool (Ym.2 O)),Y,Y,Y,Y,Y,trivial⟩,X⟩
 rintro E b6 ⟨a0,s7⟩;refine .weaken _ a0<|.ab Y (λ c3=>?_) λ c3=>?_
 ·refine .s<|.sR (λ E T=>∃ (y:ByteArray) (q:Bool),Weak [(6,(.P b1))] E/\Sat W ([jq 50 W g,cL v 9 aw ([(ws #[120])]),ai b1 36 [(.I (2:Nat)),(.string wt),(.string wt),(.string y),(.string wt),(.bool q),.N]]++cs) T/\(∃ i:Nat,w4[i]? =some y)) ?_ ?_
  ·refine .dt [0,1] s7 Y (pl [1,5] (.two 0 2 (pl [1002,3,4,1006,7,8,1009] .fin) (.two 0 6 (pl [3,4,1006,7,8,1009] .fin) (pl [7,1000,3,4,8,1009] .fin)))) λ s8 S1=>?_;have s:Sat W ((_::jq 50 W g::_)++cs) _:=Sat.ordN [2,0,1] bl s8 Y Y;have t:=kN s
   repeat' first
    |refine .DP Y ?_ ?_ ?_
    |refine .vH Y Y Y Y Y Y ?_ ?_
    |(refine Rw s Y bw bw λ k w hk s t=>?_)
    |(refine NO w4 s bI Y ⟨Y,Y,Y,Y,trivial⟩ Y Y Y Y λ v w s t=>?_)
    |(refine .ix 0 t (·.aj 2 Y) Y ?_ a0D)
    |(refine .le 0 t (·.aj 2 Y) (py a0D) Y ?_)
    |(refine .z 1 t Y ?_)
    |(refine .ev Y Y Y (λ _ _=>.build wq Y ⟨Y,Y,Y,trivial⟩ Y) t ?_)
    |(refine .bo (vs:=[_,_,_,_,_,_,_]) gW s (i:=0) Y a0M Y Y t7 λ w s _=>?_;have s:=s.Q2 Y Y;refine lB (kN s) ?_)
    |(refine .fin ?_;exact⟨_,_,wk Y,(Sat.ordN [1,2,0,3] bl s Y Y).gZ [0,1,2] Y,⟨_,py a0D⟩⟩)
    |refine .zj Y Y Y ?_
    |fail
  rintro E w5 ⟨y,q,a1,s9,hy⟩;refine .weaken _ a1<|.ret ?_;show aE _ _ _ _ _ _;refine cx (vs:=[(.I (2:Nat)),(.string wt),(.string wt),(.string y),(.string wt),(.bool q),.N]) Y Y gW (λ j u N=>s9.cell (i:=2) Y N) ?_;obtain⟨j,hy⟩:=hy;have a4:=s9.pt [0,1];have a5:=a4.gA (Q:=λ D=>RdCd D (.lf 2 wt wt y wt q) (⟨2,wt,wt,y,wt,q,⟨none,0,0⟩⟩:Cn)) (λ D=>⟨Y,RdL.nil _ _⟩);have a6:=(a5.od [1,2,0]);exact⟨.lf 2 wt wt y wt q,(⟨2,wt,wt,y,wt,q,⟨none,0,0⟩⟩:Cn),[],Y,.inl ⟨Y,.inr (.inl ⟨Y,a3a,Y,tD a3U hy⟩)⟩,Zq (ZH _),KD _,a6⟩
 refine .k<|.h<|.z 3 Y<|have A2:=s7.oc [0,1,2] 2;.c 0 (NP W g v 3 bl _ _ A2) Y ?_;rintro _ _ ⟨a3,l,a2,rfl,p,A,H,p2⟩;have a9:=p2.join.od [0,1,3,2];refine .sa 0 a9 2 Y ((aX).one _) λ _ b2 _=>have o:=b2.sn;.j<|.ret ?_;show aE _ _ _ _ _ _;exact cx (vs:=[(.I l.op),(.string l.nm),(.string l.ar),(.string l.vl),(.string l.lb),(.bool l.fo),l.kv.val]) Y Y gW (λ j u N=>o.cell (i:=2) Y N)<|have b3:=o.pt [0,1,3];⟨a3,l,a2,Y,p,A,H,b3⟩
