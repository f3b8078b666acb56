/-The walks of the functions of F02,printed by our own program (kwgen.py) out of our descriptions (base.py). -/
import Derived.Test.YtcgidfgdbhihbaaGreatDoorM06
import Derived.Test.YtcgidfgdbhihbaaGreatDoorShelf
import Derived.Test.YtcgidfgdbhihbaaGreatDoorTab
import Derived.Laws.Runes
import Derived.Test.YtcgidfgdbhihbaaGreatDoorF22c
import Derived.Test.YtcgidfgdbhihbaaGreatDoorM18
import Derived.Test.YtcgidfgdbhihbaaGreatDoorF01
import Derived.Test.YtcgidfgdbhihbaaGreatDoorF06v
open List renaming length→I,take→J,drop→ww
open ByteArray renaming mk→ws
set_option linter.all false
set_option maxRecDepth 100000
open Go.Proofs.YtcgidfgdbhihbaaGreatDoor
open List
open Go.Proofs.Tryz
namespace Go.Proofs.YtcgidfgdbhihbaaGreatDoor
open Go.RowKit Go.Kw
def dM(u:Value)(l:List Nat)(v:Nat)(w:World)(i:RdL w u t1 l)(hn:I l<=1000000000000)(T:v<2^64):
  CallsV prog 138 [u,(.int .u64 v)] w λ r W=>Sat w [cL r 5 t1 (l++uv v)] W:=by
 refine cd func138 Y λ g=>.Z Y<|.h<|.ln 1 (i.E g.E) Y<|.ln 1 (i.E g.E) Y<|.b 1 Y (.df t1 0 cy Y g Y Y O O O λ P _ D _=>.Z Y<|.h<|.b 2 Y (.VX 0 cy Y D Y Y Y (i.E D.E) λ t X _=>?_));have p:Sat w [cL P 5 t1 l] t:=by
  have q:J (I (List.replicate (I l) 0)) l++ww (I l) (List.replicate (I l) 0)=l:=bw
  rw[<-q];exact X
 refine .j<|.s<|.l<|.loop (α:=Nat×Value×List Nat) (λ(d,o,A)=>[(1,(.int .u64 d)),(5,o)]) (λ(d,o,A) W=>Sat w [cL o 5 t1 A] W/\(d<2^64)/\(A++uv d=l++uv v)) (λ(d,o,A)=>d) (v,P,l) (wk Y) ⟨p,T,Y⟩ ?_;rintro⟨d,o,A⟩ a2 ⟨E,k,H⟩;have j:=If List.length H;simp only[AT]at j;have Q:=aF v;have R:=Kn d;refine .s<|.Z Y<|.ab Y (λ y=>?_) λ y=>?_
 ·exact .k<|.l<|.h<|.a 2 Y (.ja a1C underlying5 Y Y)<|.b 1 Y (.bS t1 ((d%2^8)|||128) cy Y E Y λ a0 _ K _=>.ap 0 K 0 (K.aj 1 Y) Y λ v3 _ s5 _=>.Z Y<|.U Y<|aP ((d/2^7),v3,A++[((d%2^8)|||128)]) ⟨s5.pk [0],O,by rw[<-H,ED d k y];simp⟩)
 refine .aq<|.h<|.a 2 Y (.ja a1C underlying5 Y Y)<|.f Y (.bS t1 (d%2^8) cy Y E Y λ a1 _ N _=>.ap 0 N 0 (N.aj 1 Y) Y λ v5 _ s7 _=>.Z Y<|.ax Y Y ?_);have q:A++[d%2^8]=l++uv v:=by rw[<-H,Bd d O]
 rw[<-q];exact s7.pick [0] Y
def oO(x:Nat)(w:World)(H:x<2^64):CallsV prog 244 [.int .u64 (x:Int)] w λ r W=>r= .I ((Lib.bitLen x:Nat):Int)/\Sat w [] W:=by
 refine YS (Tryz.bits_Len64 (x:Int) w O O) ?_;rintro e W ⟨rfl,rfl⟩;exact⟨_,Y,bw,Sat.start _⟩
def kI(w:World):
  CallsV prog 198 [] w λ r W=>∃ g,r= .P g/\Sat w [ai g 312 [.N,.I 0],cL .N 5 t1 []] W:=cd func198 Y λ H=>.Z Y<|.h<|.e Y (.build Vw Y trivial Y)<|.bx 0 H Y λ i _ d _ _=>.Z Y<|.ax Y Y ⟨_,Y,d.aC 5 t1⟩
def MP(W w:World)(cs:List Chunk)(g:Nat)(v:Value)(bits:List Bool)(x:Nat)(H:Sat W ([ai g 312 [v,.I ((I bits:Nat):Int)],cL v 5 t1 (aI bits)]++cs) w)(hx:x<2^64)(hn:I bits<=1000000000000):
  CallsV prog 288 [(.P g),(.int .u64 x)] w λ r u=>r= .tuple #[]/\∃ v',Sat W ([ai g 312 [v',.I ((I (bits++[decide (x%2^1=1)]):Nat):Int)],cL v' 5 t1 (aI (bits++[decide (x%2^1=1)]))]++cs) u:=by
 refine aa func288 Y Y<|.jn [0,1] Y (λ K l u=>∃ (i:Value),Weak K l/\Sat W ([ai g 312 [i,(.I (I bits:Nat))],cL i 5 t1 (j1 bits)]++cs) u) ?_ ?_
 ·refine .s<|have a3:=aO bits;.r<|.ld 3 H 0 Y<|.e Y (.Mm (b:=7) 3 Y Y bl O bl)<|.Z Y<|.ab Y (λ D=>?_) λ D=>?_
  ·refine .r<|.ld 4 H 0 Y<|.f Y (.bS t1 0 cy Y H Y λ a4 _ s1 _=>have o:=s1.mn;.ap 0 o 1 (o.aj 2 Y) Y λ v2 _ s2 _=>have p:=(s2.sn).pt [0,1];.st 2 p 0 Y (h1:=(p.aj 1 Y).ae) λ a1 s3 _=>have a0:=s3.sn;.j ?_);have s4:Sat W ([ai g 312 [v2,(.I (I bits:Nat))],cL v2 5 t1 (j1 bits)]++cs) a1:=by
    have q:aI bits++[0]=j1 bits:=by unfold j1;rw[Xp D]
    rw[<-q];exact a0
   exact⟨v2,(wk Y),s4⟩
  refine .k ?_;have s5:Sat W ([ai g 312 [v,(.I (I bits:Nat))],cL v 5 t1 (j1 bits)]++cs) w:=by
   have q:aI bits=j1 bits:=by unfold j1;rw[Xn D]
   rw[<-q];exact H
  exact⟨v,(wk Y),s5⟩
 rintro l a2 ⟨i,Q,y⟩;refine .weaken _ Q<|.jn [0] Y (λ K l u=>Weak K l/\Sat W (y.V [(1,cL i 5 t1 (aI (bits++[decide (x%2^1=1)])))]++cs) u) ?_ ?_
 ·refine .Z Y<|.ab Y (λ N=>?_) λ N=>?_
  ·have P:=(y.aj (E:=a7 .u8) 1 Y).gY bl;refine .dt [0] y Y (pl [0,1,2,3,4,5,6,7,8,11,12,13,14,15,16,1009,1010,17,1018,1019] .fin) λ A d=>.ld 3 d 0 Y<|.ld 3 d 0 Y<|.ld 4 d 0 Y<|.e Y (λ _ s=>.Mm (b:=7) 3 Y Y bl O bl) d<|.z 1 d Y<|.f Y (.ev (Ev.ik (E:=a7 .u8) cy Y Y (A.aj 1 Y) a5a) ⟨d,?_⟩);refine .f Y (.ev (Ev.Wh (E:=a7 .u8) Vg Y (A.aj 1 Y) (Hp bits) bl Y) ⟨d,?_⟩);refine .e Y (λ _ s=>.Xe Y Y Y a1R a1R) d<|.f Y (.ev (Ev.ik (E:=a7 .u8) cy Y Y (A.aj 1 Y) a5a) ⟨d,?_⟩);refine .f Y (.dJ (a:=((cU bits (I bits/2^3))|||(128/2^(I bits%2^3)))) 1 Vh A Y Y Y Y a5a λ w5 s8 _=>have t:=s8.sn;have S2:=t.pt [0];⟨S2,?_⟩);refine .fin ?_;have s9:Sat W ([ai g 312 [i,(.I (I bits:Nat))],cL i 5 t1 (aI (bits++[decide (x%2^1=1)]))]++cs) w5:=by
    have q:(j1 bits).set (I bits/2^3) ((cU bits (I bits/2^3))|||(128/2^(I bits%2^3)))=aI (bits++[decide (x%2^1=1)]):=by rw[LW N,Dg]
    rw[<-q];exact t
   exact⟨⟨Y,trivial⟩,s9⟩
  refine .k ?_;have T:Sat W ([ai g 312 [i,(.I (I bits:Nat))],cL i 5 t1 (aI (bits++[decide (x%2^1=1)]))]++cs) a2:=by
   have q:j1 bits=aI (bits++[decide (x%2^1=1)]):=by rw[IN N,Be]
   rw[<-q];exact y
  exact⟨⟨Y,trivial⟩,T⟩
 rintro l w6 ⟨R,j⟩;refine .weaken _ R<|.r<|.ld 3 j 0 Y<|.st 3 j 0 Y λ _ X _=>have k:=X.sn;.j ?_;show aE _ _ _ _ _ _;refine cr Y ⟨Y,i,?_⟩;rw[show(bits++[decide (x%2^1=1)]).length=I bits+1 by simp];exact k
def sh(q w:World)(cs:List Chunk)(g:Nat)(v:Value)(bits:List Bool)(x m:Nat)(R:Sat q ([ai g 312 [v,.I ((I bits:Nat):Int)],cL v 5 t1 (aI bits)]++cs) w)(u:x<2^64)(hm:m<=64)(hn:I bits+m<=1000000000):
  CallsV prog 246 [(.P g),(.int .u64 x),(.I m)] w λ r W=>r= .tuple #[]/\∃ A,Sat q ([ai g 312 [A,.I ((I (bits++aY x m):Nat):Int)],cL A 5 t1 (aI (bits++aY x m))]++cs) W:=by
 refine aa func246 Y Y<|.h<|.a 1 Y (.sub (b:=(1:Int)) Y Y en)<|.V Y<|.lq [0,1] Y (α:=Nat×Value×List Bool) (λ(d,i,bs)=>[(6,(.I (((d:Nat):Int)-1)))]) (λ(d,i,bs) W=>Sat q ([ai g 312 [i,(.I (I bs:Nat))],cL i 5 t1 (aI bs)]++cs) W/\(d<=m)/\(bs++aY x d=bits++aY x m)) (λ(d,i,bs)=>d) (m,v,bits) ⟨R,KM _,Y⟩ ?_;rintro⟨d,i,bs⟩ w1 ⟨k,Q,H⟩;refine .s<|.h<|.a 1 Y (.geq Y Y)<|.j<|.ab Y (λ N=>?_) λ N=>?_
 ·refine .q ?_;obtain⟨j,rfl⟩:∃ j,d=j+1:=⟨d-1,O⟩;refine .weaken [(0,_),(1,_),(6,(.I j)),(9,_)] ⟨Y,Y,If some (If (Value.I) O),Y,trivial⟩ ?_;have o:=If List.length H;simp only[AT,aK]at o;have p:=(k.aj (E:=a7 .u8) 1 Y).gY bl;refine .dt [] k Y (pl [0,1,2,3,4,5,1006] .fin) λ X l=>.z 5 l Y<|.e Y (λ _ s=>.Q0 Y Y u) l<|have D:=X.oc [0,1] 2;.c 0 l (MP _ _ _ _ _ bs (x/2^j) D (a04 (Yn _ _) u) O) Y ?_;rintro _ _ ⟨rfl,t,T⟩;have y:=T.join.od [0,1];have K:=y.pt [];refine⟨K,?_⟩;exact .fin<|.r<|.a 1 Y (.sub (b:=(1:Int)) Y Y en)<|.Z Y ⟨(j,t,bs++[decide ((x/2^j)%2^1=1)]),(wk Y),⟨y,O,by rw[<-H];simp[aY]⟩,(show(j)<(j+1)from O)⟩
 refine .aq ?_;show aE _ _ _ _ _ _;refine cr Y ?_;have P:d=0:=O
 subst P;rw[show bs=bits++aY x m by rw[<-H];simp[aY]]at k;exact⟨Y,i,k⟩
def zy(l w:World)(cs:List Chunk)(g:Nat)(v:Value)(bits:List Bool)(x m:Nat)(i:Sat l ([ai g 312 [v,.I ((I bits:Nat):Int)],cL v 5 t1 (aI bits)]++cs) w)(q:x<2^m)(p:m<=64)(y:I bits+m<=1000000000):
  CallsV prog 287 [(.P g),(.int .u64 x),(.I m)] w λ r W=>r= .I 0/\∃ t,Sat l ([ai g 312 [t,.I ((I (bits++aY x m):Nat):Int)],cL t 5 t1 (aI (bits++aY x m))]++cs) W:=by
 have H:x<2^64:=ZM q (Y1 bl p);have u:=bitLen_le q;refine aa func287 Y Y<|.W Y<|.s<|.md [0,1,2,6] Y (λ K o W=>Weak ([(18,(.bool (decide (((m<0)\/(64<m))\/(m<(Lib.bitLen x))))))]++K) o/\Sat l i.L W) ?_ ?_
 ·refine .r<|.z 3 Y<|.B 9 Y (λ d=>?_) λ d=>?_
  ·exact .Z Y ⟨⟨If some (If Value.bool a1P),Y,Y,Y,Y,trivial⟩,i⟩
  refine .z 4 Y<|.B 13 Y (λ j=>?_) λ j=>?_
  ·exact .Z Y ⟨⟨If some (If Value.bool (by simp[d,j])),Y,Y,Y,Y,trivial⟩,i⟩
  exact .cm 1 i (oO x _ O) Y λ _ D=>.Z Y ⟨⟨If some (If Value.bool (by simp[d,j])),Y,Y,Y,Y,trivial⟩,D⟩
 rintro o Q ⟨k,E⟩;refine .weaken _ k<|.ak Y (IN O)<|.k<|.h<|.z 3 Y<|have A:=E.oc [0,1] 2;.c 0 (sh _ _ _ _ _ bits x m A H p y) Y ?_;rintro _ _ ⟨rfl,R,P⟩;have N:=P.join.od [0,1];exact .j<|.Z Y<|.ax Y Y ⟨Y,_,N⟩
def qB(g:Nat)(v:Value)(l:List Nat)(w:World)(i:w.cell? ⟨g,0,none⟩=some v)(j:RdL w v t1 l)(o:I l<=1000000000000):
  CallsV prog 201 [(.P g)] w λ r W=>Sat w [cL r 5 t1 l] W:=cd func201 Y λ H=>.Z Y<|.h<|.f Y (.wu t1 cy H λ p _ d _=>.a 4 Y (.load vq Y (d.E _ _ i))<|.ap 0 d 0 (j.E d.E) Y λ q _ k _=>.Z Y<|.ax Y Y<|k)
def oP(g m:Nat)(w:World)(d:w.cell? ⟨g,1,none⟩=some (.I (m:Int))):
  CallsV prog 243 [(.P g)] w λ r W=>r= .I (m:Int)/\Sat w [] W:=cd func243 Y λ H=>.Z Y<|.h<|.a 3 Y (.load ca Y (H.E _ _ d))<|.Z Y<|.ax Y Y ⟨Y,H⟩
def xX(g m:Nat)(w:World)(d:w.cell? ⟨g,1,none⟩=some (.I (m:Int))):
  CallsV prog 199 [(.P g)] w λ r W=>r= .I (m:Int)/\Sat w [] W:=cd func199 Y λ H=>.Z Y<|.h<|.cp 3 H (oP _ m _ (H.E _ _ d)) Y λ _ i=>.Z Y<|.ax Y Y ⟨Y,i⟩
end Go.Proofs.YtcgidfgdbhihbaaGreatDoor
namespace Go.Kw
open Go.RowKit
section
variable {P:Program} {n:Nat} {L:aA} {w:World}
def Ev.zn{s t ty:TypeId}{k:IntKind}{a:Int}{d:Option Nat}{pos:String}{af:Array Edge}{g:Option (Nat×Bool)}{x:Operand}(H:(P.underlying s).isSome=true)(i:P.underlying t=some .string)(j:aM L x=some (.int k a)):Ev P n L w ⟨d,.convert s t x,ty,pos,af,g⟩ (.string (Utf8.encode a)):=.of λ ρ l=>by
 simp only[execOp,l j,XC,run_convert_int_string _ _ _ _ _ H i,Xw,XG]
def wrap_i32{a:Nat}(h:a<2147483648):IntKind.i32.wrap (a:Int)=a:=by
 have H:(a:Int)%4294967296=a:=O
 unfold IntKind.wrap;simp[IntKind.bits,IntKind.signed,H];omega
end
end Go.Kw
namespace Go.Proofs.YtcgidfgdbhihbaaGreatDoor
open Go.RowKit Go.Kw
def QY(t:ByteArray)(b:UInt8)(w:World)(g:t.data.toList[0]? =some b)(H:t≠ws #[])(j:b.toNat<128):
  CallsV prog 266 [(.string t)] w λ r W=>r= .tuple #[.int .i32 ((b.toNat:Nat):Int),.I ((1:Nat):Int)]/\Sat w [] W:=by
 have i:0<t.size:=b8 g;have d:=Sat.start w;exact aa func266 Y Y<|.W Y<|.h<|.a 1 Y (.ej Y Y)<|.z 1 Y<|.Gt 6 Y (LW H)<|.a 1 Y (.eY underlying9 Y Y g)<|.Z Y<|.cc Y (LW O)<|.h<|.a 1 Y (.eY underlying9 Y Y g)<|.e Y (.FL (by rw[underlying5]<;>rfl) underlying21 Y (wrap_i32 O))<|.Z Y<|.bK Y Y Y ⟨Y,d.pk []⟩
def HY(t:ByteArray)(b:UInt8)(r:List UInt8)(w:World)(d:t.data.toList=b::r)(i:b.toNat<128):CallsV prog 266 [.string t] w λ R W=>R= .tuple #[.int .i32 ((b.toNat:Nat):Int),.I ((1:Nat):Int)]/\Sat w [] W:=by
 have g:t.data.toList[0]? =some b:=by rw[d]<;>rfl
 have H:t≠ws #[]:=λ e=>by rw[e]at d;cases d
 exact QY t b w g H i
def ia(p i:Nat)(s:ByteArray)(r:List UInt8)(w:World)(h0:w.cell? ⟨p,0,none⟩=some (.string s))(h1:w.cell? ⟨p,1,none⟩=some (.I (i:Int)))(h:AtP s i r):
  CallsV prog 225 [(.P p)] w λ R W=>R= .int .i32 (nF r)/\Sat w [] W:=by
 have u:=h.le;have H:=Sat.start w;refine aa func225 Y Y<|.W Y<|.s<|.dk [] H Y (pl [0,1,2,3,4,5,6,7,8,9] .fin) λ o d=>.z 3 d Y<|.e Y (λ _ q=>.load ca Y (q.E _ _ h1)) d<|.z 3 d Y<|.e Y (λ _ q=>.load qo Y (q.E _ _ h0)) d<|.e Y (λ _ q=>.br underlying9 Y) d<|.Z d Y<|.ab Y (λ j=>?_) λ j=>?_
 ·refine .Z Y<|.ax Y Y ?_;rw[h.nil j];exact⟨Y,o.pk []⟩
 refine .p ?_;obtain⟨b,A,rfl⟩:=h.cons j;refine .dk [] o Y (pl [0,1,2,3,4,5,6,7,8,1009,10,11,12,13,14] .fin) λ y g=>.z 3 g Y<|.e Y (λ _ q=>.load qo Y (q.E _ _ h0)) g<|.z 3 g Y<|.e Y (λ _ q=>.load ca Y (q.E _ _ h1)) g<|.e Y (λ _ q=>.eF (l:=i) (h:=s.size) underlying9 Y ⟨_,Y⟩ Y O O) g<|.c 0 g (HY _ b _ _ h.E (by have:=h.b;omega)) Y ?_;rintro _ _ ⟨rfl,P⟩;have t:=y.ay P;have k:=t.pk [];refine⟨k,?_⟩;exact .Z k Y<|.Z Y<|.ax Y Y ⟨Y,t.pk []⟩
def QZ(W w:World)(cs:List Chunk)(p i:Nat)(s:ByteArray)(r:List UInt8)(o:Sat W ([ai p 235 [.string s,.I ((i:Nat):Int),.I ((0:Nat):Int),.I ((0:Nat):Int)]]++cs) w)(b:UInt8)(h:AtP s i (b::r)):
  CallsV prog 344 [(.P p)] w λ R A=>R= .tuple #[]/\Sat W ([ai p 235 [.string s,.I ((i+1:Nat):Int),.I ((0:Nat):Int),.I ((0:Nat):Int)]]++cs) A:=by
 have H:=h.le;have t:=h.n;refine aa func344 Y Y<|.s<|.dt [0] o Y (pl [0,1,2,3,4,5,6,7,8,1009,10,11,12,13,14] .fin) λ u d=>.ld 3 d 0 Y<|.ld 3 d 0 Y<|.e Y (λ _ q=>.eF (l:=i) (h:=s.size) underlying9 Y ⟨_,Y⟩ Y O O) d<|.c 0 d (HY _ b _ _ h.E (by have:=h.b;omega)) Y ?_;rintro _ _ ⟨rfl,P⟩;have g:=(u.ay P).mn;have k:=g.pt [0];refine⟨k,?_⟩;refine .Z k Y<|.r<|.ld 3 g 0 Y<|.st 4 g 0 Y λ _ y _=>have j:=y.sn;.j ?_;show aE _ _ _ _ _ _;exact cr Y ⟨Y,j⟩
def DR{t:ByteArray}{c:UInt8}(w:World)(H:okLt c)(d:t=ws #[92,46,91,93,40,41,123,125,124,42,43,63]\/t=ws #[92,91,93,94,45]):CallsV prog 330 [.string t,.int .i32 ((c.toNat:Nat):Int)] w λ r W=>r= .bool false/\Sat w [] W:=by
 refine YS (Tryz.strings_ContainsRune_ascii t ((c.toNat:Nat):Int) w O (by have:=H.n;omega)) ?_;rintro e W ⟨rfl,rfl⟩;refine⟨_,Y,?_,Sat.start _⟩;rcases d with rfl|rfl<;>rcases H with rfl|rfl|rfl|rfl<;>exact If Value.bool bl
def HZ(W w:World)(cs:List Chunk)(p i:Nat)(s:ByteArray)(r:List UInt8)(H:Sat W ([ai p 235 [.string s,.I ((i:Nat):Int),.I ((0:Nat):Int),.I ((0:Nat):Int)]]++cs) w)(o:ByteArray)(c:UInt8)(d:okLt c)(h:AtP s i (c::r)):
  CallsV prog 331 [(.P p),(.string o)] w λ R q=>R= .tuple #[.int .i32 ((c.toNat:Nat):Int),.bool true]/\Sat W ([ai p 235 [.string s,.I ((i+1:Nat):Int),.I ((0:Nat):Int),.I ((0:Nat):Int)]]++cs) q:=by
 have g:=d.n;refine aa func331 Y Y<|.Z Y<|.h<|.cm 1 H (ia p i s (c::r) _ (H.cell (i:=0) (j:=0) Y Y) (H.cell (i:=0) (j:=1) Y Y) h) Y λ _ k=>.W Y<|.Z Y<|.ak Y (IN O)<|.k<|.h<|.z 1 Y<|have A:=k.oc [0] 1;.c 0 (QZ _ _ _ _ i s r A c h) Y ?_;rintro _ _ ⟨rfl,P⟩;have l:=P.join.od [0];exact .j<|.Z Y<|.bK Y Y Y ⟨Y,l⟩
def I0(W w:World)(cs:List Chunk)(p i:Nat)(s:ByteArray)(r:List UInt8)(d:Sat W ([ai p 235 [.string s,.I ((i:Nat):Int),.I ((0:Nat):Int),.I ((0:Nat):Int)]]++cs) w)(c:UInt8)(H:okLt c)(h:AtP s i (c::r)):
  CallsV prog 340 [(.P p)] w λ R q=>R= .tuple #[.int .i32 ((c.toNat:Nat):Int),.bool true]/\Sat W ([ai p 235 [.string s,.I ((i+1:Nat):Int),.I ((0:Nat):Int),.I ((0:Nat):Int)]]++cs) q:=by
 have g:=H.n;refine aa func340 Y Y<|.Z Y<|.h<|.cm 1 d (ia p i s (c::r) _ (d.cell (i:=0) (j:=0) Y Y) (d.cell (i:=0) (j:=1) Y Y) h) Y λ _ k=>.W Y<|.h<|.z 3 Y<|.Gf 9 Y (IN O)<|.z 3 Y<|.Gt 12 Y (LW O)<|.cm 1 k (DR (c:=c) _ H (.inr Y)) Y λ _ l=>.Z Y<|.ak Y Y<|.k<|.h<|.z 1 Y<|have A:=l.oc [0] 1;.c 0 (HZ _ _ _ _ i s r A _ c H h) Y ?_;rintro _ _ ⟨rfl,P⟩;have o:=P.join.od [0];exact .Z Y<|.bK Y Y Y ⟨Y,o⟩
def Q6(a b:Nat)(w:World):
  CallsV prog 328 [(.int .i32 a),(.int .i32 b)] w λ r K=>∃ (x:Rn) (d:List Nat),r=aS.ag x/\Sat w [fK d (λ W=>RdRx W (.st a b) x)] K:=by
 have l:=Sat.start w;refine aa func328 Y Y<|.h<|.al 0 l Y λ N _ y _ _=>.j<|.h<|.a 2 Y (.build QO Y ⟨Y,Y,trivial⟩ Y)<|.f Y (.bO bG (a,b) BV bl bl y Y λ P _ p _=>?_);obtain⟨g,H,o⟩:=(p.aj 1 Y).sv;subst H;refine .e Y (.build xR Y ⟨Y,Y,trivial⟩ Y)<|.sa 0 p 0 (vs:=[(.I (1:Nat)),(.I (0:Nat)),(.I (0:Nat)),g.val,.N]) Y t7 λ _ k _=>have k:=k.nn;.j<|.ret ?_;show aE _ _ _ _ _ _;refine cx (vs:=[(.I (1:Nat)),(.I (0:Nat)),(.I (0:Nat)),g.val,.N]) Y Y gz (λ j u t=>k.cell (i:=0) Y t) ?_;have D:=(k.pk [1]).pk [0];obtain⟨q,E⟩:=D.rW 1 (Q:=λ W=>RdRx W (.st a b) (⟨1,0,0,g,⟨none,0,0⟩⟩:Rn)) (λ W A=>⟨Y,A.aj 0 Y,RdL.nil _ _⟩);exact⟨(⟨1,0,0,g,⟨none,0,0⟩⟩:Rn),_,Y,E⟩
def MQ(W w:World)(cs:List Chunk)(p i:Nat)(s:ByteArray)(r:List UInt8)(q:Sat W ([ai p 235 [.string s,.I ((i:Nat):Int),.I ((0:Nat):Int),.I ((0:Nat):Int)]]++cs) w)(c:UInt8)(H:okLt c)(h:AtP s i (c::r)):
  CallsV prog 305 [(.P p)] w λ R w'=>∃ (x:Rn) (d:List Nat),R= .tuple #[aS.ag x,.bool true]/\Sat W ([ai p 235 [.string s,.I ((i+1:Nat):Int),.I ((0:Nat):Int),.I ((0:Nat):Int)],fK d (λ w1=>RdRx w1 (WB c.toNat) x)]++cs) w':=by
 have l:=H.n;refine aa func305 Y Y<|.h<|.al 0 q Y λ b1 _ E _ _=>have g:=E.mn;.Z Y<|.h<|.cm 1 g (ia p i s (c::r) _ (g.cell (i:=0) (j:=0) Y Y) (g.cell (i:=0) (j:=1) Y Y) h) Y λ _ K=>.W Y<|.l<|.Z Y<|.ak Y (IN O)<|.Z Y<|.ak Y (IN O)<|.Z Y<|.ak Y (IN O)<|.h<|.z 3 Y<|.Gt 52 Y (LW O)<|.cm 1 K (DR (c:=c) _ H (.inl Y)) Y λ _ N=>.Z Y<|.ak Y Y<|.k<|.h<|.z 1 Y<|have A:=N.oc [0,1] 1;.c 0 (HZ _ _ _ _ i s r A _ c H h) Y ?_;rintro _ _ ⟨rfl,P⟩;have Q:=P.join.od [0,1];refine .Z Y<|.h<|.c 2 (Q6 c.toNat c.toNat _) Y ?_;rintro _ _ ⟨o,y,rfl,D⟩;have T:=(Q.ay D).mn;refine .sa 1 T 1 Y ((aS).one _) λ _ X _=>have k:=X.sn;.Z Y<|.ret ?_;show aE _ _ _ _ _ _;exact gm (vs:=[(.I o.op),(.I o.mn),(.I o.mx),o.rv.val,o.kv.val]) Y Y Y gz (λ j u t=>k.cell (i:=1) Y t)<|have s7:=k.pt [0,2];⟨_,_,Y,s7⟩
def MR(W w:World)(cs:List Chunk)(p i:Nat)(s:ByteArray)(r:List UInt8)(t:Sat W ([ai p 235 [.string s,.I ((i:Nat):Int),.I ((0:Nat):Int),.I ((0:Nat):Int)]]++cs) w)(h:AtP s i (46::r)):
  CallsV prog 305 [(.P p)] w λ R X=>∃ (x:Rn) (d:List Nat),R= .tuple #[aS.ag x,.bool true]/\Sat W ([ai p 235 [.string s,.I ((i+1:Nat):Int),.I ((0:Nat):Int),.I ((0:Nat):Int)],fK d (λ w1=>RdRx w1 (.st 0 1114111) x)]++cs) X:=by
 have y:=h.n;have H:=h.le;refine aa func305 Y Y<|.h<|.al 0 t Y λ b1 _ E _ _=>have g:=E.mn;.Z Y<|.h<|.cm 1 g (ia p i s (46::r) _ (g.cell (i:=0) (j:=0) Y Y) (g.cell (i:=0) (j:=1) Y Y) h) Y λ _ q=>.W Y<|.l<|.Z Y<|.ak Y Y<|.Z Y<|.cc Y Y<|.h<|.ld 3 q 0 Y<|.st 3 q 0 Y λ _ K _=>have l:=K.sn;.j<|.h<|.c 0 (Q6 0 1114111 _) Y ?_;rintro _ _ ⟨o,D,rfl,P⟩;have N:=(l.ay P).mn;refine .sa 0 N 1 Y ((aS).one _) λ _ Q _=>have k:=Q.sn;.Z Y<|.ret ?_;show aE _ _ _ _ _ _;exact gm (vs:=[(.I o.op),(.I o.mn),(.I o.mx),o.rv.val,o.kv.val]) Y Y Y gz (λ j u A=>k.cell (i:=1) Y A)<|have T:=k.pt [0,2];⟨_,_,Y,T⟩
def Q7(a:Nat)(w:World):
  CallsV prog 357 [(.int .i32 a)] w λ r W=>r= .bool false/\Sat w [] W:=by
 have H:=Sat.start w;exact aa func357 Y Y<|.Z Y<|.Z Y<|.ax Y Y ⟨If Value.bool bw,H.pk []⟩
def R0(a b:Nat)(w:World)(h:b<a):
  CallsV prog 351 [(.int .i32 a),(.int .i32 b)] w λ r W=>r= .I ((1:Nat):Int)/\Sat w [] W:=by
 have H:=Sat.start w;exact aa func351 Y Y<|.Z Y<|.h<|.cp 1 H (Q7 a _) Y λ _ d=>.Z Y<|.h<|.cp 1 d (Q7 b _) Y λ _ g=>.W Y<|.Z Y<|.ak Y Y<|.p<|.Z Y<|.ak Y Y<|.p<|.Z Y<|.ak Y (IN O)<|.p<|.Z Y<|.cc Y (LW O)<|.Z Y<|.ax Y Y ⟨Y,g.pk []⟩
def R1(x y:Nat×Nat)(w:World)(h:y.1<x.1):
  CallsV prog 350 [((bG).ag x),((bG).ag y)] w λ r W=>r= .I ((1:Nat):Int)/\Sat w [] W:=by
 have H:=Sat.start w;exact aa func350 Y Y<|.h<|.bx 0 H Y λ j _ g _ _=>.bx 0 g Y λ k _ d _ _=>.Z Y<|.h<|.ld 1 d 0 Y<|.ld 1 d 1 Y<|.cq 0 d (R0 x.1 y.1 _ h) Y λ _ i=>.Z Y<|.ax Y Y ⟨Y,i.pk []⟩
def R2(v:Value)(w:World)(H:RdL w v bG mf):
  CallsV prog 360 [v,(.I (0:Nat)),(.I (2:Nat)),(.func (.func 350) #[] #[])] w λ r W=>r= .tuple #[]/\Sat w [] W:=by
 have g:=Sat.start w;refine aa func360 Y Y<|.V Y<|.lq [0,1,2,3] Y (α:=Nat) (λ i=>[(8,(.I i))]) (λ i W=>Sat w [] W/\(1<=i)/\(i<=2)) (λ i=>2-i) 1 ⟨g,O,O⟩ ?_;rintro i A ⟨k,y,p⟩;refine .s<|.Z Y<|.ab Y (λ o=>?_) λ o=>?_
 ·refine .q<|.s ?_;obtain rfl:i=1:=O
  refine .U Y<|.l<|.lq [0,1,2,3,8,9] Y (α:=Unit) (λ _=>[]) (λ _ W=>Sat w [] W) (λ _=>0) () k ?_;rintro _ u q;refine .s<|.s<|.dk [] q Y (pl [0,1,2,3,4,5,6,7,8,9,10,11,12,13,1014,15,16] .fin) λ t d=>.z 4 d Y<|.Gt 21 Y (LW O)<|.ix 3 d (H.E ·.E) Y (hj:=bl)<|.lg 0 d (H.E ·.E) (show mf[1]? =some (98,98)from Y) Y<|.ix 3 d (H.E ·.E) Y (hj:=bl)<|.lg 0 d (H.E ·.E) (show mf[1-1]? =some (97,97)from Y) Y<|.b 0 d Y (.kD TN Y Y ((R1 (98,98) (97,97) _ bl).mono ?_));rintro _ _ ⟨rfl,P⟩;have l:=t.ay P;have j:=l.pk [];refine⟨j,?_⟩;exact .Z j Y<|.ak Y (IN O)<|.aq<|.U Y<|aP (1+1) ⟨l,O,O⟩
 refine .aq ?_;show aE _ _ _ _ _ _;exact cr Y ⟨Y,k.pk []⟩
def R3(v:Value)(w:World)(g:RdL w v bG mf)(n:Nat):
  CallsV prog 356 [v,(.I (0:Nat)),(.I (2:Nat)),(.I n),(.func (.func 350) #[] #[])] w λ r W=>r= .tuple #[]/\Sat w [] W:=by
 have H:=Sat.start w;refine aa func356 Y Y<|.Z Y<|.V Y<|.lq [0,1,2,3,4] Y (α:=Unit) (λ _=>[]) (λ _ W=>Sat w [] W) (λ _=>0) () H ?_;rintro _ j d;refine .l<|.W Y<|.Z Y<|.cc Y (LW O)<|.h<|.cp 4 d (R2 _ _ (g.E d.E)) Y λ _ i=>.j<|.ret ?_;show aE _ _ _ _ _ _;exact cr Y ⟨Y,i.pk []⟩
def FQ(x:Nat)(w:World)(H:x<2^63):CallsV prog 237 [.int .u64 (x:Int)] w λ r W=>r= .I ((Lib.bitLen x:Nat):Int)/\Sat w [] W:=by
 refine YS (Tryz.bits_Len (x:Int) w O O) ?_;rintro e W ⟨rfl,rfl⟩;exact⟨_,Y,bw,Sat.start _⟩
def MS(v:Value)(w:World)(d:RdL w v bG mf):
  CallsV prog 349 [v,(.func (.func 350) #[] #[])] w λ r W=>r= .tuple #[]/\Sat w [] W:=by
 have H:=Sat.start w;refine aa func349 Y Y<|.h<|.ln 1 (d.E H.E) Y<|.Z Y<|.weaken [(0,_),(1,_),(4,(.I (2:Nat))),(5,_),(6,_)] ⟨Y,Y,If some Y,Y,Y,trivial⟩<|.r<|.cp 4 H (FQ 2 _ O) Y λ _ g=>.cp 1 g (R3 _ _ (d.E g.E) (Lib.bitLen 2)) Y λ _ i=>.j ?_;show aE _ _ _ _ _ _;exact cr Y ⟨Y,i.pk []⟩
def I1(v:Value)(w:World)(o:RdL w v bG mf):
  CallsV prog 341 [v] w λ r W=>Sat w [cL r 338 bG [(97,98)]] W:=by
 have q:=Sat.start w;refine aa func341 Y Y<|.Z Y<|.h<|.cp 1 q (MS _ _ (o.E q.E)) Y λ _ Q=>.j<|.W Y<|.h<|.ln 1 (o.E Q.E) Y<|.V Y<|have s2:=Q.aC 338 bG;have s3:=s2.bp 0 Y (show[]=Uh 0 from Y);.lq [0,2,9,10] Y (α:=Nat×Value) (λ(k,p)=>[(3,p),(11,(.I k))]) (λ(k,p) W=>Sat w [cL p 338 bG (Uh k)] W/\(k<=2)) (λ(k,p)=>2-k) (0,.N) ⟨s3,KD _⟩ ?_;rintro⟨k,p⟩ a3 ⟨l,a0⟩;refine .W Y<|.ab Y (λ A=>?_) λ A=>?_
 ·refine .q<|.s ?_;rcases(show k=0\/k=1 by have:k<2:=A;omega)with rfl|rfl
  ·have a1:I (Uh 0)=0:=rfl;exact .r<|.ix 0 (o.E l.E) Y (hj:=bl)<|.lg 0 (o.E l.E) (show mf[0]? =some (97,97)from Y) Y<|.al 0 l Y λ b1 _ N _ _=>have N:=N.nn;.sa 0 N 1 Y ((bG).one _) λ _ R _=>.j<|.h<|.ln 1 (R.aj 0 Y) Y<|.W Y<|.dk [0,1] R Y (pl [0,1,2,3,4,5,6,7,8,9,10,11,12,13] .fin) λ T P=>.z 3 P Y<|.Gf 19 Y (IN bl)<|.Z P Y<|.ak Y Y<|.r<|.lo 1 T 1 Y<|.f Y (.bO bG (97,97) BV bl bl T Y λ v1 _ X _=>.ap 0 X 0 (X.aj 2 Y) Y (h1:=bl) (h2:=bl) λ v2 _ s9 _=>.Z Y<|.U Y<|have D:=(s9.pk [0,1]).bp 0 Y (show[(97,97)]=Uh (0+1)from Y);aP (0+1,v2) ⟨D.pk [0],O⟩)
  have a2:I (Uh 1)=1:=rfl;refine .r<|.ix 0 (o.E l.E) Y (hj:=bl)<|.lg 0 (o.E l.E) (show mf[1]? =some (98,98)from Y) Y<|.al 0 l Y λ b2 _ i _ _=>have i:=i.nn;.sa 0 i 1 Y ((bG).one _) λ _ t _=>.j<|.h<|.ln 1 (t.aj 0 Y) Y<|.W Y<|.dk [0,1] t Y (pl [0,1,2,3,4,5,6,7,8,9,10,11,12,13] .fin) λ j d=>.z 3 d Y<|.Gt 19 Y (LW bl)<|.ld 1 d 1 Y<|.ix 3 d (·.aj 0 Y) Y (hj:=bl)<|.fl 0 d (·.aj 0 Y) Y (hj:=bl)<|.lf 0 d (·.aj 0 Y) (show[((97:Nat),(97:Nat))][0]? =some (97,97)from Y) Y<|.a 0 d Y (λ _ s=>.addW (a:=((97:Nat):Int)) (b:=((1:Nat):Int)) Y Y)<|.a 0 d Y (λ _ s=>.leq Y Y)<|.Z d Y<|.cc Y (LW bl)<|have H:=(j.aj (E:=bG) 0 Y).gY bl;.gB [0,1] [1] j Y Y 14 (pl [0,1,2,3,4,5,6,7,8,9,10,11] (.loose 12 (pl [13] (.bar 14 .fin)))) mixed F<|have u:=j.drew;have g:=u.pk [0,1];.ix 6 g (·.aj 0 Y) Y (hj:=bl)<|.fl 0 g (·.aj 0 Y) Y (hj:=bl)<|.lf 0 g (·.aj 0 Y) (show[((97:Nat),(97:Nat))][0]? =some (97,97)from Y) Y<|.ld 1 g 1 Y<|.e Y (λ _ s=>.HQ (a:=97) (b:=98) Y Y) g<|.loose Y Y Y (λ _ s=>.lK BV Y Y H bl) g<|.fl 0 g (·.aj 0 Y) Y (hj:=bl)<|.bar Y Y Y (OpE.jF (E:=bG) 0 ((97:Nat),(98:Nat)) QE u Y Y Y Y (show[((97:Nat),(97:Nat))][0]? =some (97,97)from Y) Y bl λ _ y _=>have S4:=y.pk [1];⟨S4,?_⟩);exact .fin<|.U Y<|have K:=y.bp 0 Y (show([(97,97)]).set (I ([(97,97)])-1) ((97:Nat),(98:Nat))=Uh (1+1)from Y);aP (1+1,p) ⟨K.pk [0],O⟩
 refine .aq<|.Z Y<|.ax Y Y ?_;obtain rfl:k=2:=by have:¬ k<2:=A;omega
 exact l.pk [0]
def MT(X w:World)(cs:List Chunk)(p i:Nat)(s:ByteArray)(r:List UInt8)(hs:Sat X ([ai p 235 [.string s,.I ((i:Nat):Int),.I ((0:Nat):Int),.I ((0:Nat):Int)]]++cs) w)(h:AtP s i (91::wg r)):
  CallsV prog 329 [(.P p)] w λ r' W=>∃ (x:Rn) (d:List Nat),r'= .tuple #[aS.ag x,.bool true]/\Sat X ([ai p 235 [.string s,.I ((i+4:Nat):Int),.I ((0:Nat):Int),.I ((0:Nat):Int)],fK d (λ w1=>RdRx w1 (.st 97 98) x)]++cs) W:=by
 have c6:=h.n;have a1:=h.len;simp only[wg,No]at a1;refine aa func329 Y Y<|.h<|.al 0 hs Y λ b1 _ s1 _ _=>have y:=s1.mn;.Z Y<|.h<|.ld 3 y 0 Y<|.Z Y<|.h<|.ld 3 y 0 Y<|.st 3 y 0 Y λ _ s2 _=>have A:=s2.sn;.j<|.h<|.cm 1 A (ia p (i+1) s (97::98::93::r) _ (A.cell (i:=0) (j:=0) Y Y) (A.cell (i:=0) (j:=1) Y Y) h.next) Y λ _ s3=>.W Y<|.Z Y<|.ak Y Y<|.k<|.W Y<|.l<|have s4:=(s3.aC 338 bG).mn;have s5:=(s4.bp 2 Y (show[]=mf.take 0 from Y)).sn;.lq [0,2,4,5] Y (α:=Nat×Value) (λ(k,N)=>[(6,N)]) (λ(k,N) W=>Sat X (s5.V [(0,ai p 235 [(.string s),(.I ((i+1+k):Nat)),(.I (0:Nat)),(.I (0:Nat))]),(2,cL N 338 bG (mf.take k))]++cs) W/\(k<=2)) (λ(k,N)=>2-k) (0,.N) ⟨s5,KD _⟩ ?_;rintro⟨k,N⟩ c8 ⟨D,hk⟩;have t:AtP s (i+1+k) ((wg r).drop k):=h.next.drop (by show k<=r.length+3;omega);refine .s<|.s<|.md [0,2,4,5,6] Y (λ K L' W=>Weak ([(40,(.bool (decide (((mf.take k).length=0)\/(((nF ((wg r).drop k)):Int)≠(93:Int))))))]++K) L'/\Sat X D.L W) ?_ ?_
 ·refine .r<|.ln 1 (D.aj 2 Y) Y<|.z 2 Y<|.B 36 Y (λ E=>?_) λ E=>?_
  ·exact .Z Y ⟨⟨If some (If Value.bool a1Y),Y,Y,Y,Y,Y,trivial⟩,D⟩
  exact .cm 1 D (ia p (i+1+k) s ((wg r).drop k) _ (D.cell (i:=0) (j:=0) Y Y) (D.cell (i:=0) (j:=1) Y Y) t) Y λ _ s7=>.a 0 Y (.neq Y Y)<|.Z Y ⟨⟨If some (If Value.bool a1Y),Y,Y,Y,Y,Y,trivial⟩,s7⟩
 rintro L' w6 ⟨a5,T⟩;refine .weaken _ a5<|.ab Y (λ c1=>?_) λ c1=>?_
 ·refine .k<|.l<|.s ?_;have a0:=(KE r hk).1 c1;obtain⟨b,r2,hb,hc,a2,a4,c5⟩:=Sk r a0;rw[hb]at t;have c7:(mf.take k).length<=2:=XL (a1f _ _) O;refine .r<|.ld 3 T 0 Y<|.Z Y<|.h<|.z 1 Y<|have A1:=T.oc [0,1,2] 1;.c 0 (I0 _ _ _ _ (i+1+k) s r2 A1 b hc t) Y ?_;rintro _ _ ⟨rfl,p3⟩;have s9:=p3.join.od [0,1,2];exact .Z Y<|.W Y<|.h<|.cm 3 s9 (ia p (i+1+k+1) s r2 _ (s9.cell (i:=0) (j:=0) Y Y) (s9.cell (i:=0) (j:=1) Y Y) t.next) Y λ _ a6=>.a 0 Y (.eql Y Y)<|.Z Y<|.ak Y (IN a2)<|.p<|.Z Y<|.ak Y (IN O)<|.p<|.Z Y<|.ak Y Y<|.k<|.r<|.a 3 Y (.build QO Y ⟨Y,Y,trivial⟩ Y)<|.f Y (.bO bG (b.toNat,b.toNat) BV bl bl a6 Y λ v1 _ a9 _=>have l:=a9.mn;.ap 0 l 2 (l.aj 3 Y) Y (h1:=dv) (h2:=dv) λ v2 _ b2 _=>have P:=(b2.sn).pt [0,1,2];.Z Y<|have b3:=(P.bp 2 Y (show mf.take k++[(b.toNat,b.toNat)]=mf.take (k+1)from a4)).sn;have b4:=b3.pt [0,1,2];aP (k+1,v2) ⟨b4,O⟩)
 refine .aq<|.s ?_;obtain rfl:k=2:=by have:=mt (KE r hk).2 c1;omega
 refine .r<|.ld 3 T 0 Y<|.st 3 T 0 Y λ _ b5 _=>have o:=b5.sn;.j<|.h<|.c 1 (I1 _ _ (o.aj 2 Y)) Y λ r5 _ h5=>have R:=(o.ay h5).mn;.Z Y ?_;obtain⟨g,H,a3⟩:=(R.aj 3 Y).sv;subst H;refine .s<|.Z Y<|.ak Y Y<|.k<|.h<|.a 1 Y (.build xR Y ⟨Y,Y,trivial⟩ Y)<|.sa 0 R 1 (vs:=[(.I (1:Nat)),(.I (0:Nat)),(.I (0:Nat)),g.val,.N]) Y t7 λ _ b6 _=>have q:=b6.sn;.Z Y<|.ret ?_;show aE _ _ _ _ _ _;refine gm (vs:=[(.I (1:Nat)),(.I (0:Nat)),(.I (0:Nat)),g.val,.N]) Y Y Y gz (λ j u hu=>q.cell (i:=1) Y hu) ?_;have b7:=q.pt [0,3];have c0:=(b7.od [1,0]);obtain⟨c4,c2⟩:=c0.fu 1 (Q:=λ w1=>RdRx w1 (.st 97 98) (⟨1,0,0,g,⟨none,0,0⟩⟩:Rn)) Y Y (λ w1 hA=>⟨Y,hA.aj 0 Y,RdL.nil _ _⟩);have c3:=(c2.od [1,0]);exact⟨(⟨1,0,0,g,⟨none,0,0⟩⟩:Rn),_,Y,c3⟩
def MU(W w:World)(cs:List Chunk)(p i:Nat)(s:ByteArray)(r:List UInt8)(H:Sat W ([ai p 235 [.string s,.I ((i:Nat):Int),.I ((0:Nat):Int),.I ((0:Nat):Int)]]++cs) w)(h:AtP s i (91::wg r)):
  CallsV prog 305 [(.P p)] w λ R K=>∃ (x:Rn) (d:List Nat),R= .tuple #[aS.ag x,.bool true]/\Sat W ([ai p 235 [.string s,.I ((i+4:Nat):Int),.I ((0:Nat):Int),.I ((0:Nat):Int)],fK d (λ N=>RdRx N (.st 97 98) x)]++cs) K:=by
 refine aa func305 Y Y<|.h<|.al 0 H Y λ Q _ o _ _=>have g:=o.mn;.Z Y<|.h<|.cm 1 g (ia p i s (91::wg r) _ (g.cell (i:=0) (j:=0) Y Y) (g.cell (i:=0) (j:=1) Y Y) h) Y λ _ q=>.W Y<|.l<|.Z Y<|.ak Y Y<|.Z Y<|.ak Y Y<|.Z Y<|.cc Y Y<|.h<|.z 1 Y<|have A:=q.oc [0,1] 1;.c 0 (MT _ _ _ _ i s r A h) Y ?_;rintro _ _ ⟨t,T,rfl,P⟩;have y:=P.join.od [0,2,1];refine .sa 2 y 1 Y ((aS).one _) λ _ D _=>have k:=D.sn;.Z Y<|.ret ?_;show aE _ _ _ _ _ _;exact gm (vs:=[(.I t.op),(.I t.mn),(.I t.mx),t.rv.val,t.kv.val]) Y Y Y gz (λ j u l=>k.cell (i:=1) Y l)<|have E:=k.pt [0,2];⟨_,_,Y,E⟩
def R4(W w:World)(cs:List Chunk)(p i:Nat)(s:ByteArray)(r:List UInt8)(g:Sat W ([ai p 235 [.string s,.I ((i:Nat):Int),.I ((0:Nat):Int),.I ((0:Nat):Int)]]++cs) w)(t:ItX)(l:OkI t)(h:AtP s i (t.b0++r)):CallsV prog 305 [.P p] w λ R o=>∃ (x:Rn) (d:List Nat),R= .tuple #[aS.ag x,.bool true]/\Sat W ([ai p 235 [.string s,.I ((i+I t.b0:Nat):Int),.I ((0:Nat):Int),.I ((0:Nat):Int)],fK d (λ q=>RdRx q t.x0 x)]++cs) o:=by
 obtain⟨k,c,u⟩:=t;rcases l.k with⟨H,j⟩|H|H<;>simp only at H<;>subst H
 ·exact MQ W w cs p i s r g c j h
 ·exact MR W w cs p i s r g h
 exact MU W w cs p i s r g h
def I2(w0 w:World)(cs:List Chunk)(p i:Nat)(s:ByteArray)(r:List UInt8)(hs:Sat w0 ([ai p 235 [.string s,.I ((i:Nat):Int),.I ((0:Nat):Int),.I ((0:Nat):Int)]]++cs) w)(t:ItX)(ht:OkI t)(hr:xC r)(h:AtP s i (t.b++r)):
  CallsV prog 265 [(.P p)] w λ r' w'=>∃ (x:Rn) (d:List Nat),r'= .tuple #[aS.ag x,.bool true]/\Sat w0 ([ai p 235 [.string s,.I ((i+I t.b:Nat):Int),.I ((0:Nat):Int),.I ((0:Nat):Int)],fK d (λ W=>RdRx W t.x x)]++cs) w':=by
 obtain⟨m0,a6⟩:=OL h;have e2:=h.n;refine aa func265 Y Y<|.h<|.al 0 hs Y λ b1 _ s1 _ _=>have c6:=s1.mn;.Z Y<|.h<|.z 1 Y<|have A1:=c6.oc [0,1] 1;.c 0 (R4 _ _ _ _ i s (t.s++r) A1 t ht (by rw[<-KW];exact h)) Y ?_;rintro _ _ ⟨a2,e1,rfl,p1⟩;have s2:=p1.join.od [0,2,1];refine .al 3 s2 Y λ b2 _ s3 _ _=>have e0:=s3.mn;.sa 0 e0 3 Y ((aS).one _) λ _ s4 _=>have X:=s4.sn;.W Y<|.l<|.lq [0,2,4,5] Y (α:=Nat×Rn×List Nat×Rx×List UInt8×Nat) (λ(j,y,d,q,R,m)=>[]) (λ(j,y,d,q,R,m) w'=>Sat w0 (X.V [(0,ai p 235 [(.string s),(.I j),(.I (0:Nat)),(.I (0:Nat))]),(2,fK d (λ W=>RdRx W q y)),(3,ai b2 187 [(.I y.op),(.I y.mn),(.I y.mx),y.rv.val,y.kv.val])]++cs) w'/\(UT s i t r j q R m)) (λ(j,y,d,q,R,m)=>m) ((i+I t.b0),a2,e1,t.x0,(t.s++r),m0) ⟨X,a6⟩ ?_;rintro⟨j,y,d,q,R,m⟩ w5 ⟨s5,hS⟩;refine .s<|.Z Y<|.cc Y Y<|.k<|.l<|.W Y<|.h<|.cm 1 s5 (ia p j s R _ (s5.cell (i:=0) (j:=0) Y Y) (s5.cell (i:=0) (j:=1) Y Y) hS.1) Y λ _ D=>.j<|.l<|.s ?_;rcases Sl ht hr hS with H|H|H
 ·refine .r<|.e Y (.eql Y Y)<|.Z Y<|.ak Y (IN H.1.1)<|.h<|.e Y (.eql Y Y)<|.Z Y<|.ak Y (IN H.1.2.1)<|.h<|.e Y (.eql Y Y)<|.Z Y<|.ak Y (IN H.1.2.2.1)<|.h<|.e Y (.eql Y Y)<|.Z Y<|.ak Y (IN H.1.2.2.2)<|.h<|.lo 0 D 3 Y<|.sa 0 D 1 (vs:=[(.I y.op),(.I y.mn),(.I y.mx),y.rv.val,y.kv.val]) Y t7 λ _ s7 _=>have a0:=s7.sn;.Z Y<|.ret ?_;show aE _ _ _ _ _ _;refine gm (vs:=[(.I y.op),(.I y.mn),(.I y.mx),y.rv.val,y.kv.val]) Y Y Y gz (λ j u hu=>a0.cell (i:=1) Y hu) ?_;have s8:=a0.pt [0,2];rw[H.2.1,H.2.2]at s8;exact⟨_,_,Y,s8⟩
 ·refine .weaken [(0,_),(2,_),(4,_),(5,_),(6,_),(7,_),(14,_),(15,(.int .i32 (42:Nat)))] ⟨Y,Y,Y,Y,Y,Y,Y,If some (If (Value.int .i32) H.1),trivial⟩<|.U Y<|.cc Y Y<|.p<|have a5:=H.2.2.1.1.le;.r<|.ld 3 D 0 Y<|.st 3 D 0 Y λ _ s9 _=>have a1:=s9.sn;.j<|.r<|.lo 2 a1 3 Y<|.f Y (.bO aS y qq bl bl a1 Y λ v1 _ b4 _=>?_);have g:=b4.mn;obtain⟨o,K,a9⟩:=(g.aj 4 Y).sv;subst K;refine .e Y (.build xR Y ⟨Y,Y,Y,Y,trivial⟩ Y)<|.sa 0 g 3 (vs:=[(.I (4:Nat)),(.I (0:Nat)),(.I (-1)),.N,o.val]) Y t7 λ _ b5 _=>have P:=b5.sn;.j ?_;have b6:=(P.od [4,2,0,1,3]);obtain⟨a3,b7⟩:=b6.fu 2 (Q:=λ W=>RdRx W (.rp 0 (-1) q) (⟨4,0,-1,⟨none,0,0⟩,o⟩:Rn)) Y Y (λ W E=>⟨Y,RdL.nil _ _,y,E.aj 0 Y,E.bE 1 Y⟩);have c0:=(b7.od [1,2,0,3]);have c1:=c0.pt [0,1,2,3];exact⟨((j+1),(⟨4,0,-1,⟨none,0,0⟩,o⟩:Rn),a3,(.rp 0 (-1) q),r,0),(wk Y),⟨c1,H.2.2.1⟩,(show(0)<(m)from by have:=H.2.1;omega)⟩
 refine .weaken [(0,_),(2,_),(4,_),(5,_),(6,_),(7,_),(14,_),(15,(.int .i32 (63:Nat)))] ⟨Y,Y,Y,Y,Y,Y,Y,If some (If (Value.int .i32) H.1),trivial⟩<|.U Y<|.ak Y Y<|.Z Y<|.ak Y Y<|.Z Y<|.cc Y Y<|.U Y<|.s<|have a5:=H.2.2.1.1.le;.r<|.ld 3 D 0 Y<|.st 3 D 0 Y λ _ c2 _=>have k:=c2.sn;.j<|.r<|.lo 2 k 3 Y<|.f Y (.bO aS y qq bl bl k Y λ v2 _ c3 _=>?_);have l:=c3.mn;obtain⟨A,N,b3⟩:=(l.aj 4 Y).sv;subst N;refine .e Y (.build xR Y ⟨Y,Y,Y,Y,trivial⟩ Y)<|.sa 0 l 3 (vs:=[(.I (4:Nat)),(.I (0:Nat)),(.I (1:Nat)),.N,A.val]) Y t7 λ _ c4 _=>have T:=c4.sn;.j ?_;have c5:=(T.od [4,2,0,1,3]);obtain⟨a4,c7⟩:=c5.fu 2 (Q:=λ W=>RdRx W (.rp 0 1 q) (⟨4,0,1,⟨none,0,0⟩,A⟩:Rn)) Y Y (λ W E=>⟨Y,RdL.nil _ _,y,E.aj 0 Y,E.bE 1 Y⟩);have c8:=(c7.od [1,2,0,3]);have c9:=c8.pt [0,1,2,3];exact⟨((j+1),(⟨4,0,1,⟨none,0,0⟩,A⟩:Rn),a4,(.rp 0 1 q),r,0),(wk Y),⟨c9,H.2.2.1⟩,(show(0)<(m)from by have:=H.2.1;omega)⟩
def FR(w0 w:World)(cs:List Chunk)(p i:Nat)(s:ByteArray)(r:List UInt8)(hs:Sat w0 ([ai p 235 [.string s,.I ((i:Nat):Int),.I ((0:Nat):Int),.I ((0:Nat):Int)]]++cs) w)(l:List ItX)(hl:∀ t∈l,OkI t)(hn:I l<=2)(hr:r=[]\/nF r=124)(h:AtP s i (bC l++r)):
  CallsV prog 224 [(.P p)] w λ r' w'=>∃ (x:Rn) (d:List Nat),r'= .tuple #[aS.ag x,.bool true]/\Sat w0 ([ai p 235 [.string s,.I ((i+I (bC l):Nat):Int),.I ((0:Nat):Int),.I ((0:Nat):Int)],fK d (λ W=>RdRx W (zw l) x)]++cs) w':=by
 refine aa func224 Y Y<|.h<|.al 0 hs Y λ b1 _ s1 _ _=>have P:=s1.mn;.Z Y<|.W Y<|.h<|.cm 1 P (ia p i s (bC l++r) _ (P.cell (i:=0) (j:=0) Y Y) (P.cell (i:=0) (j:=1) Y Y) h) Y λ _ s2=>.V Y<|have s3:=(s2.aC 187 aS).mn;have s4:=s3.gA (Q:=λ W=>RxL W ((J 0 l).map ItX.x) ([])) (λ W=>RxL.nil W);have s5:=(s4.od [1,2,3,0]);.lq [0,2] Y (α:=Nat×Nat×Value×List Rn×List Nat) (λ(k,j,ov,L,d)=>[(4,ov),(5,(.int .i32 (nF (bC (ww k l)++r))))]) (λ(k,j,ov,L,d) w'=>Sat w0 (s5.V [(0,ai p 235 [(.string s),(.I j),(.I (0:Nat)),(.I (0:Nat))]),(2,cL ov 187 aS L),(3,fK d (λ W=>RxL W ((J k l).map ItX.x) L))]++cs) w'/\(k<=I l)/\(AtP s j (bC (ww k l)++r))/\(j=i+I (bC (J k l)))/\(I L=k)) (λ(k,j,ov,L,d)=>I l-k) (0,i,.N,[],[]) ⟨s5,KD _,h,Y,Y⟩ ?_;rintro⟨k,j,ov,L,d⟩ e8 ⟨R,hk,hP,hj,hL⟩;refine .s<|.s<|.bM 19 ((((0:Int)<=((nF (bC (ww k l)++r)):Int))/\(((nF (bC (ww k l)++r)):Int)≠(124:Int)))/\(((nF (bC (ww k l)++r)):Int)≠(41:Int))) ?_ ?_
 ·refine .a 1 Y (.geq Y Y)<|.z 1 Y<|.B 12 Y (λ g1=>?_) λ g1=>?_
  ·refine .a 1 Y (.neq Y Y)<|.z 2 Y<|.B 16 Y (λ g2=>?_) λ g2=>?_
   ·refine .a 1 Y (.neq Y Y)<|.M Y a0X
   refine .M Y a0X
  refine .M Y sp
 refine .ab Y (λ c1=>?_) λ c1=>?_
 ·refine .q<|.s ?_;have a5:=(US hl hr hk).1 c1;obtain⟨t,hx⟩:=ut l k a5;have ht:=hl t (Xs hx);have K:AtP s j (t.b++(bC (ww (k+1) l)++r)):=by rw[<-EJ hx];exact hP
  refine .r<|.z 1 Y ?_;have A1:=R.oc [0,1,2,3] 1;refine .c 0 (I2 _ _ _ _ j s (bC (ww (k+1) l)++r) A1 t ht (KB hl hr) K) Y λ r2 _ a4=>?_;obtain⟨T,e7,rfl,p2⟩:=a4;have s7:=p2.join.od [0,2,3,4,1];refine .al 3 s7 Y λ b2 _ s8 _ _=>?_;have e1:=s8.mn;refine .sa 0 e1 5 Y ((aS).one _) λ _ s9 _=>?_;have o:=s9.sn;refine .W Y<|.Z Y<|.ak Y Y<|.p ?_;have e6:=(o.bE 4 Y).head.1;have e2:=t.Xg;refine .r<|.ld 1 o 5 Y<|.e Y (.eql Y Y)<|.j<|.ak Y (IN O)<|.r<|.lo 1 o 5 Y<|.f Y (.bO aS T qq bl bl o Y λ v1 _ a9 _=>?_);have y:=a9.mn;refine .ap 0 y 2 (y.aj 6 Y) Y (h1:=dv) (h2:=dv) λ v2 _ b3 _=>?_;have g:=(b3.sn).pt [0,1,2,3,4,5];refine .Z Y<|.r<|.cm 1 g (ia p (j+I t.b) s (bC (ww (k+1) l)++r) _ (g.cell (i:=0) (j:=0) Y Y) (g.cell (i:=0) (j:=1) Y Y) K.app) Y λ _ b4=>.Z Y ?_;have b5:=(b4.od [3,4,0,1,2,5]);obtain⟨a3,b6⟩:=b5.fu 2 (Q:=λ W=>RxL W ((J (k+1) l).map ItX.x) (L++[T])) Y Y (λ W H=>by rw[ao hx,Y0];exact(H.bE 0 Y).snoc (H.bE 1 Y));have b7:=(b6.od [1,2,3,0,4]);have c0:=b7.pt [0,1,2,3];exact aP (k+1,(j+I t.b),v2,L++[T],a3) ⟨c0,O,K.app,by rw[OK hx,AT];omega,a4e⟩
 refine .aq<|.s<|.s ?_;have e5:k=I l:=by have:=mt (US hl hr hk).2 c1;omega
 refine .r<|.ln 1 (R.aj 2 Y) Y<|.Z Y<|.ab Y (λ c2=>?_) λ c2=>?_
 ·refine .s ?_;obtain⟨z,hz⟩:=ut L 0 O;refine .r<|.a 1 Y (.ik (j:=0) (E:=aS) qq Y Y (R.aj 2 Y) O)<|.lg 0 (R.aj 2 Y) hz Y<|.sa 0 R 1 Y ((aS).one _) λ _ c3 _=>have A:=c3.sn;.Z Y<|.ret ?_;show aE _ _ _ _ _ _;refine gm (vs:=[(.I z.op),(.I z.mn),(.I z.mx),z.rv.val,z.kv.val]) Y Y Y gz (λ j u hu=>A.cell (i:=1) Y hu) ?_;have N:j=i+I (bC l):=by rw[hj,Xx O]
  have c4:=A.pt [0,3];have c5:=(c4.od [1,0]);obtain⟨e3,c6⟩:=c5.fu 1 (Q:=λ W=>RdRx W (zw l) z) Y Y (λ W H=>X3 O (by have X:=H.bE 0 Y;rw[Xx O]at X;exact X) hz);have a1:=(c6.od [1,0]);rw[N]at a1;exact⟨z,_,Y,a1⟩
 refine .p ?_;obtain⟨q,a0,a6⟩:=(R.aj 2 Y).sv;subst a0;refine .r<|.a 1 Y (.build xR Y ⟨Y,Y,trivial⟩ Y)<|.sa 0 R 1 (vs:=[(.I (2:Nat)),(.I (0:Nat)),(.I (0:Nat)),.N,q.val]) Y t7 λ _ c7 _=>have D:=c7.sn;.Z Y<|.ret ?_;show aE _ _ _ _ _ _;refine gm (vs:=[(.I (2:Nat)),(.I (0:Nat)),(.I (0:Nat)),.N,q.val]) Y Y Y gz (λ j u hu=>D.cell (i:=1) Y hu) ?_;have N:j=i+I (bC l):=by rw[hj,Xx O]
 have c8:=D.pt [0,2,3];have c9:=(c8.od [1,2,0]);obtain⟨e4,e0⟩:=c9.fu 2 (Q:=λ W=>RdRx W (zw l) (⟨2,0,0,⟨none,0,0⟩,q⟩:Rn)) Y Y (λ W H=>Si hn O (by have X:=H.bE 1 Y;rw[Xx O]at X;exact X) (H.aj 0 Y) (RdL.nil _ _));have a2:=(e0.od [1,0]);rw[N]at a2;exact⟨(⟨2,0,0,⟨none,0,0⟩,q⟩:Rn),_,Y,a2⟩
def I3(w0 w:World)(cs:List Chunk)(p i:Nat)(s:ByteArray)(hs:Sat w0 ([ai p 235 [.string s,.I ((i:Nat):Int),.I ((0:Nat):Int),.I ((0:Nat):Int)]]++cs) w)(ls:List (List ItX))(H:Wf ls)(h:AtP s i (bU ls)):
  CallsV prog 174 [(.P p)] w λ r' w'=>∃ (x:Rn) (d:List Nat),r'= .tuple #[aS.ag x,.bool true]/\Sat w0 ([ai p 235 [.string s,.I ((i+I (bU ls):Nat):Int),.I ((0:Nat):Int),.I ((0:Nat):Int)],fK d (λ W=>RdRx W (KS ls) x)]++cs) w':=by
 refine aa func174 Y Y<|.h<|.al 0 hs Y λ b1 _ s1 _ _=>have c6:=s1.mn;.Z Y<|.W Y<|.l<|have s2:=(c6.aC 187 aS).mn;have s3:=s2.gA (Q:=λ W=>RxL W ((J 0 ls).map zw) ([])) (λ W=>RxL.nil W);have s4:=(s3.od [1,2,3,0]);.lq [0,2] Y (α:=Nat×Nat×Value×List Rn×List Nat) (λ(k,j,ov,L,d)=>[(4,ov)]) (λ(k,j,ov,L,d) w'=>Sat w0 (s4.V [(0,ai p 235 [(.string s),(.I j),(.I (0:Nat)),(.I (0:Nat))]),(2,cL ov 187 aS L),(3,fK d (λ W=>RxL W ((J k ls).map zw) L))]++cs) w'/\(k<I ls)/\(AtP s j (bU (ww k ls)))/\(I L=k)/\(j+I (bU (ww k ls))=i+I (bU ls))) (λ(k,j,ov,L,d)=>I ls-k) (0,i,.N,[],[]) ⟨s4,H.2.1,h,Y,Y⟩ ?_;rintro⟨k,j,ov,L,d⟩ g7 ⟨s5,hk,hP,hL,X⟩;refine .l<|.s ?_;obtain⟨a,r,hx,hb,hw⟩:=UU H.2.2 hk;have ha:=H.1 a (Xs hx);have hr:r=[]\/nF r=124:=by rcases hw with⟨rfl,_⟩|⟨rfl,_⟩;exact .inl Y;exact .inr Y
 rw[hb]at hP X;rw[AT]at X;refine .r<|.z 1 Y ?_;have A1:=s5.oc [0,1,2,3] 1;refine .c 0 (FR _ _ _ _ j s r A1 a ha.1 ha.2 hr hP) Y λ r1 _ a9=>?_;obtain⟨t,g6,rfl,p1⟩:=a9;have s6:=p1.join.od [0,2,3,4,1];refine .al 3 s6 Y λ b2 _ s7 _ _=>?_;have e6:=s7.mn;refine .sa 0 e6 5 Y ((aS).one _) λ _ s8 _=>?_;have D:=s8.sn;refine .W Y<|.Z Y<|.ak Y Y<|.p<|.s ?_;have g3:=(D.bE 4 Y).head.1;have e7:=Sn a;refine .r<|.ld 1 D 5 Y<|.e Y (.eql Y Y)<|.j<|.ak Y (IN O)<|.r<|.lo 1 D 5 Y<|.f Y (.bO aS t qq bl bl D Y λ v1 _ s9 _=>?_);have a5:=s9.mn;refine .ap 0 a5 2 (a5.aj 6 Y) Y (h1:=a4p) (h2:=a4p) λ v2 _ b4 _=>?_;have l:=(b4.sn).pt [0,1,2,3,4,5];refine .W Y<|.h<|.cm 1 l (ia p (j+I (bC a)) s r _ (l.cell (i:=0) (j:=0) Y Y) (l.cell (i:=0) (j:=1) Y Y) hP.app) Y λ _ T=>.e Y (.neq Y Y)<|.j<|.ab Y (λ c1=>?_) λ c1=>?_
 ·refine .vF Y<|.s<|.s ?_;have y:r=[]/\k+1=I ls:=hw.resolve_right (λ q=>c1 (by rw[q.1]<;>rfl));rw[y.1,Xv]at X;have b5:=(T.od [3,4,0,1,2,5]);obtain⟨e8,b6⟩:=b5.fu 2 (Q:=λ W=>RxL W (ls.map zw) (L++[t])) Y Y (λ W A=>by rw[<-Xx (show I ls<=k+1 by omega),ao hx,Y0];exact(A.bE 0 Y).snoc (A.bE 1 Y));have b7:=(b6.od [1,2,3,0,4]);have g:=b7.pt [0,1,2,3];have g2:I (L++[t])=k+1:=by rw[AT,hL]<;>rfl
  refine .r<|.ln 1 (g.aj 2 Y) Y<|.Z Y<|.ab Y (λ c2=>?_) λ c2=>?_
  ·refine .s ?_;obtain⟨z,hz⟩:=ut (L++[t]) 0 O;refine .r<|.a 1 Y (.ik (j:=0) (E:=aS) qq Y Y (g.aj 2 Y) O)<|.lg 0 (g.aj 2 Y) hz Y<|.sa 0 g 1 Y ((aS).one _) λ _ c0 _=>have N:=c0.sn;.Z Y<|.ret ?_;show aE _ _ _ _ _ _;refine gm (vs:=[(.I z.op),(.I z.mn),(.I z.mx),z.rv.val,z.kv.val]) Y Y Y gz (λ j u hu=>N.cell (i:=1) Y hu) ?_;have R:j+I (bC a)=i+I (bU ls):=O
   have a0:=H.2.2;have c3:=N.pt [0,3];have c4:=(c3.od [1,0]);obtain⟨g0,c5⟩:=c4.fu 1 (Q:=λ W=>RdRx W (KS ls) z) Y Y (λ W A=>X4 O (A.bE 0 Y) hz);have a2:=(c5.od [1,0]);rw[R]at a2;exact⟨z,_,Y,a2⟩
  refine .p ?_;obtain⟨K,a1,b3⟩:=(g.aj 2 Y).sv;subst a1;refine .r<|.a 1 Y (.build xR Y ⟨Y,Y,trivial⟩ Y)<|.sa 0 g 1 (vs:=[(.I (3:Nat)),(.I (0:Nat)),(.I (0:Nat)),.N,K.val]) Y t7 λ _ c7 _=>have P:=c7.sn;.Z Y<|.ret ?_;show aE _ _ _ _ _ _;refine gm (vs:=[(.I (3:Nat)),(.I (0:Nat)),(.I (0:Nat)),.N,K.val]) Y Y Y gz (λ j u hu=>P.cell (i:=1) Y hu) ?_;have R:j+I (bC a)=i+I (bU ls):=O
  have a0:=H.2.2;have c8:=P.pt [0,2,3];have c9:=(c8.od [1,2,0]);obtain⟨g1,e0⟩:=c9.fu 2 (Q:=λ W=>RdRx W (KS ls) (⟨3,0,0,⟨none,0,0⟩,K⟩:Rn)) Y Y (λ W A=>Sj O (A.bE 1 Y) (A.aj 0 Y) (RdL.nil _ _));have a3:=(e0.od [1,0]);rw[R]at a3;exact⟨(⟨3,0,0,⟨none,0,0⟩,K⟩:Rn),_,Y,a3⟩
 refine .k ?_;have y:=hw.resolve_left (λ q=>c1 (by rw[q.1];decide));have o:=hP.app;rw[y.1]at o X;have g5:=o.n;have g4:=o.b;rw[No]at X;refine .r<|.ld 3 T 0 Y<|.st 3 T 0 Y λ _ e1 _=>have a4:=e1.sn;.j ?_;have e2:=(a4.od [3,4,0,1,2,5]);obtain⟨a6,e3⟩:=e2.fu 2 (Q:=λ W=>RxL W ((J (k+1) ls).map zw) (L++[t])) Y Y (λ W A=>by rw[ao hx,Y0];exact(A.bE 0 Y).snoc (A.bE 1 Y));have e4:=(e3.od [1,2,3,0,4]);have e5:=e4.pt [0,1,2,3];exact aP (k+1,(j+I (bC a)+1),v2,L++[t],a6) ⟨e5,y.2,o.next,a4e,O⟩
def R5{a b k:Nat}{x:Nat×Nat}(h:[(a,b)][k]? =some x):k=0/\x.1=a/\x.2=b:=by
 match k,h with
 |0,h=>cases h;exact⟨Y,Y,Y⟩
 |k+1,h=>simp at h
def R6(v:Value)(a b:Nat)(w:World)(i:RdL w v bG [(a,b)])(o:a<=b/\b<=1114111):
  CallsV prog 308 [v] w λ r W=>r= .bool true/\Sat w [] W:=by
 have H:=Sat.start w;refine aa func308 Y Y<|.W Y<|.h<|.ln 1 (i.E H.E) Y<|.V Y<|.lq [0,5,6] Y (α:=Nat) (λ k=>[(7,(.I k))]) (λ k W=>Sat w [] W) (λ k=>I ([(a,b)])-k) 0 H ?_;rintro k E g;refine .W Y<|.ab Y (λ j=>?_) λ j=>?_
 ·refine .q<|.s ?_;obtain⟨x,l⟩:=ut ([(a,b)]) k j;obtain⟨p,q,t⟩:=R5 l;exact .r<|.ix 1 (i.E g.E) Y<|.lg 0 (i.E g.E) l Y<|.al 0 g Y λ D _ u _ _=>.sa 1 u 0 Y ((bG).one _) λ _ y _=>.j<|.s<|.dk [0] y Y (pl [0,1,2,3,4,5,6,7,8,9,10,11,12,13,14,15,16,17,18,19,20,21,22,23,24,25,26,27,28,29,30] .fin) λ A d=>.ld 1 d 0 Y<|.z 2 d Y<|.Gf 15 Y (IN O)<|.ld 1 d 0 Y<|.ld 1 d 0 Y<|.z 3 d Y<|.Gf 22 Y (IN O)<|.ld 1 d 0 Y<|.z 3 d Y<|.Gf 27 Y (IN O)<|.z 3 d Y<|.Gf 30 Y (IN O)<|.Z d Y<|.ak Y Y<|.k<|.U Y<|aP (k+1) (A.pk [])
 exact .aq<|.h<|.ln 1 (i.E g.E) Y<|.Z Y<|.ax Y Y ⟨If Value.bool (LW bw),g.pk []⟩
def MV(q:Rx)(x:Rn)(w:World)(hg:q.gd=true)(h:RdRx w q x):
  CallsV prog 267 [((aS).ag x)] w λ r W=>r= .bool true/\Sat w [] W:=by
 obtain⟨rs,L,H⟩:=VnX.of h hg;have hn:=H.n;have a3:=H.op;have T:=Sat.start w;refine aa func267 Y Y<|.h<|.bx 0 T Y λ b1 _ g _ _=>.W Y<|.s<|.bM 29 ((((x.op:Int)≠(1:Int))/\(0<I rs))\/(((x.op:Int)≠(4:Int))/\(((x.mn:Int)≠(0:Int))\/((x.mx:Int)≠(0:Int))))) ?_ ?_
 ·refine .ld 1 g 0 Y<|.e Y (.neq Y Y)<|.z 1 Y<|.B 9 Y (λ i=>?_) λ i=>?_
  ·refine .ld 1 g 0 Y<|.ln 0 (H.hrs.E g.E) Y<|.z 3 Y<|.B 15 Y (λ l=>?_) λ l=>?_
   ·refine .M Y (by simp[i,l])
   refine .ld 1 g 0 Y<|.a 0 Y (.neq Y Y)<|.z 1 Y<|.B 19 Y (λ o=>?_) λ o=>?_
   ·refine .ld 1 g 0 Y<|.a 0 Y (.neq Y Y)<|.z 1 Y<|.B 23 Y (λ t=>?_) λ t=>?_
    ·refine .M Y (by simp[i,l,o,t])
    refine .ld 1 g 0 Y<|.a 0 Y (.neq Y Y)<|.M Y (by simp[i,l,o,t])
   refine .M Y (by simp[i,l,o])
  refine .ld 7 g 0 Y<|.a 0 Y (.neq Y Y)<|.z 1 Y<|.B 19 Y (λ p=>?_) λ p=>?_
  ·refine .ld 1 g 0 Y<|.a 0 Y (.neq Y Y)<|.z 1 Y<|.B 23 Y (λ u=>?_) λ u=>?_
   ·refine .M Y (by simp[i,p,u])
   refine .ld 1 g 0 Y<|.a 0 Y (.neq Y Y)<|.M Y (by simp[i,p,u])
  refine .M Y (by simp[i,p])
 refine .ak Y (IN (by rintro(⟨D,E⟩|⟨D,E⟩);rw[H.r0 D]at E;exact absurd E bl;have:=H.m0 D;omega))<|.k<|.h<|.ld 1 g 0 Y<|.ln 0 (H.hks.E g.E) Y<|.W Y<|.h<|.ld 1 g 0 Y<|.ln 0 (H.hks.E g.E) Y<|.V Y<|.lq [0,1,3,34,35] Y (α:=Nat) (λ k=>[(36,(.I k))]) (λ k W=>Sat w g.L W) (λ k=>I L-k) 0 g ?_;rintro k a9 d;refine .W Y<|.ab Y (λ X=>?_) λ X=>?_
 ·refine .q<|.s ?_;obtain⟨y,hy⟩:=ut L k X;obtain⟨k9,a1,a5,a0,a6,P,Q⟩:=H.kd _ _ hy;refine .r<|.ix 0 (H.hks.E d.E) Y<|.lg 0 (H.hks.E d.E) hy Y<|.al 0 d Y λ b2 _ s3 _ _=>.sa 0 s3 1 Y ((aS).one _) λ _ j _=>have j:=j.nn;.j<|.s<|.bM 49 (((y.op:Int)=(x.op:Int))/\((x.op:Int)≠(4:Int))) ?_ ?_
  ·refine .ld 1 j 1 Y<|.ld 1 j 0 Y<|.e Y (.eql Y Y)<|.z 1 Y<|.B 45 Y (λ A=>?_) λ A=>?_
   ·refine .ld 1 j 0 Y<|.a 0 Y (.neq Y Y)<|.M Y a5b
   refine .M Y a5b
  exact .ak Y (IN (λ e=>e.2 (by rw[H.op];exact Q (by rw[<-P,<-H.op];exact e.1))))<|.k<|.U Y<|aP (k+1) (j.pk [0])
 refine .aq<|.s<|.h<|.ld 1 d 0 Y<|.j<|.l<|.h<|.e Y (.eql Y Y)<|.Z Y<|.ab Y (λ c2=>?_) λ c2=>?_
 ·refine .s ?_;have N:=c2;obtain⟨a,b,a4,R,K⟩:=H.o1 N;have a2:I L=0:=by have:=H.n;omega
  exact .r<|.z 3 Y<|.Gt 57 Y (LW O)<|.ld 1 d 0 Y<|.cp 0 d (R6 _ a b _ ((R▸H.hrs).E d.E) K) Y λ _ s6=>.Z Y<|.ax Y Y ⟨Y,s6.pk []⟩
 refine .h<|.e Y (.eql Y Y)<|.Z Y<|.ab Y (λ c3=>?_) λ c3=>?_
 ·exact .Z Y<|.ax Y Y ⟨If Value.bool (LW a1S),d.pk []⟩
 refine .h<|.e Y (.eql Y Y)<|.Z Y<|.ab Y (λ c4=>?_) λ c4=>?_
 ·exact .Z Y<|.ax Y Y ⟨If Value.bool (LW a1S),d.pk []⟩
 refine .h<|.e Y (.eql Y Y)<|.Z Y<|.ab Y (λ c5=>?_) λ c5=>?_
 ·refine .h<|.z 3 Y<|.Gt 74 Y (LW O)<|.ld 1 d 0 Y<|.a 0 Y (.geq Y Y)<|.z 2 Y<|.Gt 79 Y (LW a4o)<|.ld 1 d 0 Y<|.a 0 Y (.leq Y Y)<|.z 2 Y<|.Gt 84 Y (LW a4o)<|.ld 1 d 0 Y<|.a 0 Y (.eql Y Y)<|.z 1 Y<|.B 88 Y (λ g8=>?_) λ g8=>?_
  ·exact .Z Y<|.ax Y Y ⟨Y,d.pk []⟩
  exact .ld 1 d 0 Y<|.ld 1 d 0 Y<|.a 0 Y (.geq Y Y)<|.z 1 Y<|.Gt 94 Y (LW (by have:=H.m4 O;omega))<|.ld 1 d 0 Y<|.a 0 Y (.leq Y Y)<|.Z Y<|.ax Y Y ⟨If Value.bool (LW a1S),d.pk []⟩
 refine .p ?_;omega
def zz(n:Nat)(E:∀ (q:Rx) (x:Rn) (w:World),q.sz<n->q.gd=true->RdRx w q x->CallsV prog 227 [aS.ag x] w λ r W=>r= .bool true/\Sat w [] W)(q:Rx)(x:Rn)(w:World)(hn:q.sz=n)(A:q.gd=true)(h:RdRx w q x):
  CallsV prog 227 [((aS).ag x)] w λ r W=>r= .bool true/\Sat w [] W:=by
 obtain⟨rs,L,H⟩:=VnX.of h A;have N:=H.n;have l:=Sat.start w;refine aa func227 Y Y<|.h<|.bx 0 l Y λ b1 _ o _ _=>.W Y<|.h<|.lo 0 o 0 Y<|.cp 0 o (MV q x _ A (h.E o.E)) Y λ _ d=>.Z Y<|.ak Y Y<|.p<|.h<|.ld 1 d 0 Y<|.ln 0 (H.hks.E d.E) Y<|.V Y<|.lq [0,1,9,10] Y (α:=Nat) (λ k=>[(11,(.I k))]) (λ k W=>Sat w d.L W) (λ k=>I L-k) 0 d ?_;rintro k a0 g;refine .W Y<|.ab Y (λ u=>?_) λ u=>?_
 ·refine .q<|.s ?_;obtain⟨y,D⟩:=ut L k u;obtain⟨T,K,j,i,R,P,Q⟩:=H.kd _ _ D;exact .r<|.ix 0 (H.hks.E g.E) Y<|.lg 0 (H.hks.E g.E) D Y<|.al 0 g Y λ b2 _ p _ _=>have p:=p.nn;.sa 0 p 1 Y ((aS).one _) λ _ t _=>.j<|.h<|.lo 0 t 1 Y<|.cp 0 t (E T y _ O i (j.E t.E)) Y λ _ X=>.Z Y<|.ak Y Y<|.k<|.U Y<|aP (k+1) (X.pk [0])
 exact .aq<|.Z Y<|.ax Y Y ⟨Y,g.pk []⟩
def I4{q:Rx}{x:Rn}(w:World)(g:q.gd=true)(h:RdRx w q x):CallsV prog 227 [aS.ag x] w λ r W=>r= .bool true/\Sat w [] W:=by
 suffices H:∀ n (q:Rx) (x:Rn) (w:World),q.sz=n->q.gd=true->RdRx w q x->CallsV prog 227 [aS.ag x] w λ r W=>r= .bool true/\Sat w [] W from H _ q x w Y g h
 intro n;induction n using Nat.strongRecOn with
 |_ n j=>exact λ q x w d g h=>zz n (λ q x w i g h=>j q.sz i q x w Y g h) q x w d g h
def FT(n:Nat)(T:∀ (q:Rx) (x:Rn) (w:World),q.sz<n->q.gd=true->q.sz<=60->RdRx w q x->CallsV prog 228 [aS.ag x] w λ r W=>r= .I ((q.ps:Nat):Int)/\Sat w [] W)(q:Rx)(x:Rn)(w:World)(hn:q.sz=n)(hg:q.gd=true)(a9:q.sz<=60)(h:RdRx w q x):
  CallsV prog 228 [((aS).ag x)] w λ r W=>r= .I ((q.ps:Nat):Int)/\Sat w [] W:=by
 obtain⟨rs,L,H⟩:=VnX.of h hg;have a2:=H.op;have a0:=H.n;have a3:=q.FD;have E:=Sat.start w;refine aa func228 Y Y<|.h<|.bx 0 E Y λ b1 _ g _ _=>.W Y<|.h<|.ld 1 g 0 Y<|.e Y (.eql Y Y)<|.j<|.ab Y (λ N=>?_) λ N=>?_
 ·refine .Z Y<|.ax Y Y ?_;obtain⟨a,b,rfl,_⟩:=H.o1 N;exact⟨Y,g.pk []⟩
 refine .k<|.W Y<|.h<|.ld 1 g 0 Y<|.ln 0 (H.hks.E g.E) Y<|.V Y<|.lq [0,1,2,10,11] Y (α:=Nat×Nat) (λ(k,m)=>[(3,(.I m)),(12,(.I k))]) (λ(k,m) W=>Sat w g.L W/\(m=((J k q.ks).map Rx.ps).sum)) (λ(k,m)=>I L-k) (0,0) ⟨g,Y⟩ ?_;rintro⟨k,m⟩ b4 ⟨d,hN⟩;refine .W Y<|.ab Y (λ P=>?_) λ P=>?_
 ·refine .q<|.s ?_;obtain⟨y,R⟩:=ut L k P;obtain⟨K,p,D,o,b3,a1,a5⟩:=H.kd _ _ R;have a6:=sum_take (f:=Rx.ps) p;have a4:=K.FD;have A:=q.Fy O;exact .r<|.ix 0 (H.hks.E d.E) Y<|.lg 0 (H.hks.E d.E) R Y<|.al 0 d Y λ b2 _ s4 _ _=>.sa 0 s4 1 Y ((aS).one _) λ _ l _=>have l:=l.nn;.j<|.r<|.lo 1 l 1 Y<|.cp 0 l (T K y _ O o O (D.E l.E)) Y λ _ s6=>.a 1 Y (.C0 (b:=65) Y Y)<|.Z Y<|.U Y<|aP (k+1,(min (m+K.ps) 65)) ⟨s6.pk [0],O⟩
 refine .aq<|.s<|.l<|.s ?_;have A:=q.Fy O;have t:J k q.ks=q.ks:=Xx (by have:=H.ln;omega);rw[t]at hN;refine .r<|.ld 1 d 0 Y<|.e Y (.neq Y Y)<|.Z Y<|.ab Y (λ X=>?_) λ X=>?_
 ·exact .Z Y<|.ax Y Y ⟨If (Value.I) O,d.pk []⟩
 refine .h<|.ld 1 d 0 Y<|.e Y (.eql Y Y)<|.Z Y<|.ab Y (λ Q=>?_) λ Q=>?_
 ·exact .r<|.a 2 Y (.re (If (Value.I) (H.m4 O).1) (Ev.load ca Y (d.cell (i:=0) (j:=1) Y Y)))<|.e Y (.re Y (Ev.HQ (a:=0) (b:=1) Y Y))<|.e Y (.re (If (Value.I) (show((m*1:Nat):Int)=(m:Int) by simp)) (Ev.TU (b:=1) Y Y O))<|.Z Y<|.h<|.a 1 Y (.C0 (b:=65) Y Y)<|.Z Y<|.ax Y Y ⟨If (Value.I) O,d.pk []⟩
 have u:x.mx=1:=(H.m4 O).2.resolve_left Q;exact .r<|.a 2 Y (.re (If (Value.I) u) (Ev.load ca Y (d.cell (i:=0) (j:=2) Y Y)))<|.e Y (.re (If (Value.I) (show((m*1:Nat):Int)=(m:Int) by simp)) (Ev.TU (b:=1) Y Y O))<|.Z Y<|.h<|.a 1 Y (.C0 (b:=65) Y Y)<|.Z Y<|.ax Y Y ⟨If (Value.I) O,d.pk []⟩
def R7{q:Rx}{x:Rn}(w:World)(g:q.gd=true)(d:q.sz<=60)(h:RdRx w q x):CallsV prog 228 [aS.ag x] w λ r W=>r= .I ((q.ps:Nat):Int)/\Sat w [] W:=by
 suffices H:∀ n (q:Rx) (x:Rn) (w:World),q.sz=n->q.gd=true->q.sz<=60->RdRx w q x->CallsV prog 228 [aS.ag x] w λ r W=>r= .I ((q.ps:Nat):Int)/\Sat w [] W from H _ q x w Y g d h
 intro n;induction n using Nat.strongRecOn with
 |_ n k=>exact λ q x w i g d h=>FT n (λ q x w j g d h=>k q.sz j q x w Y g d h) q x w i g d h
def Ca(W:World)(b n:Nat)(P:∀ (q:Rx) (x:Rn) (w:World) (cs:List Chunk) (m d:Nat),q.sz<n->m+q.sz<=60->d+q.sz<=40->RdRx W q x->Sat W ([ai b 3 [.I (m:Int)]]++cs) w->CallsV prog 226 [aS.ag x,.I (d:Int),.P b] w λ r l=>r= .bool true/\Sat W ([ai b 3 [.I ((m+q.sz:Nat):Int)]]++cs) l)(q:Rx)(x:Rn)(w:World)(cs:List Chunk)(m d:Nat)(hn:q.sz=n)(hm:m+q.sz<=60)(hd:d+q.sz<=40)(h:RdRx W q x)(X:Sat W ([ai b 3 [.I (m:Int)]]++cs) w):
  CallsV prog 226 [((aS).ag x),(.I d),(.P b)] w λ r l=>r= .bool true/\Sat W ([ai b 3 [.I ((m+q.sz:Nat):Int)]]++cs) l:=by
 obtain⟨L,H,E,p⟩:=h.kids;have a1:=q.FJ;have T:=q.oI;refine aa func226 Y Y<|.h<|.bx 0 X Y λ b1 _ s1 _ _=>have i:=s1.mn;.Z Y<|.h<|.ld 2 i 0 Y<|.st 2 i 0 Y λ _ s2 _=>have g:=s2.sn;.j<|.s<|.h<|.z 3 Y<|.Gf 16 Y (IN O)<|.ld 2 g 0 Y<|.Z Y<|.ak Y (IN O)<|.p<|.h<|.ld 1 g 1 Y<|.ln 0 (H.E g.E) Y<|.V Y<|.lq [0,1,2,3,23,24] Y (α:=Nat×Nat) (λ(k,e)=>[(25,(.I k))]) (λ(k,e) l=>Sat W (g.V [(0,ai b 3 [(.I e)])]++cs) l/\(e=m+1+((J k q.ks).map Rx.sz).sum)/\(k<=I L)) (λ(k,e)=>I L-k) (0,(m+1)) ⟨g,bw,KD _⟩ ?_;rintro⟨k,e⟩ a2 ⟨o,R,hK⟩;refine .W Y<|.ab Y (λ D=>?_) λ D=>?_
 ·refine .q<|.s ?_;obtain⟨y,K⟩:=ut L k D;obtain⟨Q,t,u⟩:=p k y K;have a0:=sum_take (f:=Rx.sz) t;refine .r<|.ix 0 (H.E o.E) Y<|.lg 0 (H.E o.E) K Y<|.al 0 o Y λ b2 _ s4 _ _=>have A:=s4.mn;.sa 0 A 2 Y ((aS).one _) λ _ s5 _=>have j:=s5.sn;.j<|.h<|.lo 0 j 2 Y<|.z 3 Y<|have N:=j.oc [0,1,2] 1;.c 0 (P Q y _ _ e (d+1) O O O u N) Y ?_;rintro _ _ ⟨rfl,p1⟩;have s6:=p1.join.od [0,1,2];exact .Z Y<|.ak Y Y<|.k<|.U Y<|have s7:=s6.pt [0,1];aP (k+1,(e+Q.sz)) ⟨s7,O,O⟩
 refine .aq<|.Z Y<|.ax Y Y ?_;have s8:=o.pt [0];rw[show m+q.sz=e by rw[R,Xx O];omega];exact⟨Y,s8⟩
def MW{W:World}{b:Nat}{q:Rx}{x:Rn}(w:World)(cs:List Chunk)(m d:Nat)(g:m+q.sz<=60)(hd:d+q.sz<=40)(h:RdRx W q x)(i:Sat W ([ai b 3 [.I (m:Int)]]++cs) w):CallsV prog 226 [aS.ag x,.I (d:Int),.P b] w λ r j=>r= .bool true/\Sat W ([ai b 3 [.I ((m+q.sz:Nat):Int)]]++cs) j:=by
 suffices H:∀ n,∀ (q:Rx) (x:Rn) (w:World) (cs:List Chunk) (m d:Nat),q.sz=n->m+q.sz<=60->d+q.sz<=40->RdRx W q x->Sat W ([ai b 3 [.I (m:Int)]]++cs) w->CallsV prog 226 [aS.ag x,.I (d:Int),.P b] w λ r j=>r= .bool true/\Sat W ([ai b 3 [.I ((m+q.sz:Nat):Int)]]++cs) j from H _ q x w cs m d Y g hd h i
 intro n;induction n using Nat.strongRecOn with
 |_ n o=>exact λ q x w cs m d k g hd h i=>Ca W b n (λ q x w cs m d l g hd h i=>o q.sz l q x w cs m d Y g hd h i) q x w cs m d k g hd h i
def I5(q:Rx)(x:Rn)(w:World)(j:q.gd=true)(D:q.sz<=30)(h:RdRx w q x):
  CallsV prog 176 [((aS).ag x)] w λ r W=>r= .I ((0:Nat):Int)/\Sat w [] W:=by
 have k:=q.FD;have H:=Sat.start w;refine aa func176 Y Y<|.h<|.bx 0 H Y λ u _ l _ _=>.Z Y<|.h<|.al 0 l Y λ y _ o _ _=>.st 0 o 1 Y λ _ d _=>have d:=d.nn;.j<|.s<|.l<|.h<|.lo 0 d 0 Y<|have A:=d.tail.oc [1,0] 1;.c 0 (MW _ _ 0 1 O O h A) Y ?_;rintro _ _ ⟨rfl,p⟩;have g:=(Sat.order [1,0] bl p.join).aH.nn;exact .Z Y<|.ak Y Y<|.h<|.lo 0 g 0 Y<|.cp 0 g (I4 (q:=q) _ j (h.E g.E)) Y λ _ i=>.Z Y<|.ak Y Y<|.h<|.lo 0 i 0 Y<|.cp 0 i (R7 (q:=q) _ j O (h.E i.E)) Y λ _ t=>.Z Y<|.ak Y (IN O)<|.k<|.Z Y<|.ax Y Y ⟨Y,t.pk []⟩
end Go.Proofs.YtcgidfgdbhihbaaGreatDoor
namespace Go.Kw
def iS{P:Program}{n:Nat}{K:aA->World->Prop}{d:Fence}{m:Nat}(j:d=Fence.wide\/∃ l,d=UG l){g:Array Oper}(hd:∀ (i:Nat) o,g[i]? =some o->gE o=true):∀ (l:List Nat) (a:Act) (w:World),wpOps P g (RQ n K) l a w->wpOpsIn d m P g (RQ n K) l a w
 |[],a,w,H=>H
 |i::r,a,w,H=>by
  unfold wpOps at H;unfold wpOpsIn;cases k:g[i]? with
  |none=>rw[k]at H;exact iS j hd r a w H
  |some o=>
   rw[k]at H;dsimp only at H⊢;split at H
   ·rename_i hw
    rw[Xp hw];rcases H with H|⟨_,H⟩
    ·exact om j (hd i o k) (λ b w p=>iS j hd r b w p) H
    ·exact absurd H yl
   ·rename_i hw
    rw[Xn hw];exact⟨λ f _=>by rcases j with rfl|⟨l,rfl⟩<;>trivial,iS j hd r _ _ H⟩
theorem CWR.draw{lp:Nat}{P:Program}{n:Nat}{N R:aA->World->Prop}{X G:List (Nat×(aA->World->Prop))}{L:aA}{w:World}{id:Nat}{l:List Oper}(S:World->Prop)(p:Plan)(d:P.follows .mixedOrders=true)(k:p.sg l=true)(hd:l.all gE=true)
  (h:RP P n l [S] p N L w.drew):CWR lp P n (.region id l.toArray true) ⟨N,R,X,G⟩ L w:=λ a H=>by
 simp only[Plan.sg,Xz,Zv]at k;have y:=iY (b:=none) (S1:=S) (S2:=S) _ _ _ _ (by
  have:=planWp.jb (b:=none) (S1:=S) k.1.2 S [S] Y Y p (Array.replicate (I l) false) (I l) a _ k.2 (λ _ e=>by cases e) k.1.1.1 (XW k.1.1.2) (h a H);exact this)
 refine a07 (wpIn_region_draw λ t=>iS (.inr ⟨lp,Y⟩) (λ i o g=>Y6.1 hd o (Xs a0N)) _ _ _ ?_) (RQ.lift (Q:=⟨N,R,X,G⟩));simp only[Region.schedule,d,Bool.true_or,Z7];exact wpAny_sound _ t _ a _ a1M
theorem CWR.dt{lp:Nat}{P:Program}[Mx P]{n:Nat}{N R:aA->World->Prop}{X G:List (Nat×(aA->World->Prop))}{L:aA}{w W:World}{A d cs:List Chunk}{id:Nat}{l:List Oper}(i:List Nat)(H:Sat W (A++cs) w)(j:fj i 0 A=some d)(p:Plan)(h:Sat W (A++cs) w.drew->Sat W (d++cs) w.drew->RP P n l [λ g=>Sat W (d++cs) g] p N L w.drew)(k:p.sg l=true:=by kernel_rfl)(hd:l.all gE=true:=by rfl):CWR lp P n (.region id l.toArray true) ⟨N,R,X,G⟩ L w:=
 CWR.draw (λ g=>Sat W (d++cs) g) p Mx.h k hd (h H.drew (H.drew.gZ i j))
theorem CWR.ek{lp:Nat}{P:Program}{n:Nat}{N R:aA->World->Prop}{X G:List (Nat×(aA->World->Prop))}{L:aA}{w d T:World}{A g j cs:List Chunk}{id:Nat}{l:List Oper}(K ks:List Nat)(r:Sat d (A++cs) T)(q:fj K 0 A=some g)(h2:fj ks 0 g=some j)(b:Nat)(p:Plan)(D:P.follows .mixedOrders=true)(k:p.vC l b=true)
  (h:RP P n l [λ W=>Sat d (g++cs) W,λ W=>Sat d (j++cs) W] p N L w.drew) (hd:l.all gE=true:=by rfl):CWR lp P n (.region id l.toArray true) ⟨N,R,X,G⟩ L w:=λ a H=>by
 simp only[Plan.vC,Xz,Zo]at k;have u:b<I l:=by have:=k.2;simp only[a05]at this;exact this
 have y:=iY (b:=some b) (S1:=λ W=>Sat d (g++cs) W) (S2:=λ W=>Sat d (j++cs) W) _ _ _ _ (by
  have:=planWp.oH (S2:=λ W=>Sat d (j++cs) W) k.1.1.2 (λ W=>Sat d (g++cs) W) (λ w h=>h.gZ ks h2) p (Array.replicate (I l) false) (I l) a _ k.1.2 a1H k.1.1.1.1 (XW k.1.1.1.2) (h a H);exact this)
 refine a07 (wpIn_region_draw λ t=>iS (.inr ⟨lp,Y⟩) (λ i o E=>Y6.1 hd o (Xs (by simpa using E))) _ _ _ ?_) (RQ.lift (Q:=⟨N,R,X,G⟩));simp only[Region.schedule,D,Bool.true_or,Z7];exact wpAny_sound _ t _ a _ a1M
end Go.Kw
namespace Go.Proofs.YtcgidfgdbhihbaaGreatDoor
open Go.RowKit Go.Kw
def Wi(s:ByteArray)(i:Nat)(w:World)(hn:s.size<=1000000)(hi:i<=1000000):
  CallsV prog 173 [(.string s),(.I i)] w λ r w'=>∃ (a b c:Nat) (o:Bool),r= .tuple #[.int .i32 (a:Int),.I (b:Int),.I (c:Int),.bool o]/\(o=true->i<I (dh s.data.toList)/\∃ u∈dh s.data.toList,u.r=a)/\(o=false->I (dh s.data.toList)<=i)/\Sat w [] w':=by
 have a6:=Sat.start w;refine iz func173 Y Y<|CT.seq<|.r<|.bx 0 a6 Y λ k _ s1 _ _=>.al 0 s1 Y λ N _ s2 _ _=>.al 0 s2 Y λ P _ s3 _ _=>have s3:=s3.nn;.al 0 s3 Y λ Q _ s4 _ _=>.al 0 s4 Y λ R _ s5 _ _=>.j<|CT.PU<|have s6:Sat w [fC (I ([]:List Un)<=i),ai k 3 [(.I i)],ai N 21 [(.int .i32 (0:Nat))],ai P 3 [(.I (0:Nat))],ai Q 3 [(.I (0:Nat))],ai R 4 [(.bool false)]] _:=s5.pure (p:=I ([]:List Un)<=i) (KD _);.r<|.c 1 (oM s _) Y ?_;rintro _ _ ⟨W,rfl,p1⟩;have s7:=(s6.ay p1).nn;refine .j ?_;refine pq (own:=[ai W 9 [(.string s)]]) (cs:=[]) (enc:=λ u=>gJ.ag u) (us:=dh s.data.toList) (λ done (g:(Nat×Nat×Nat))=>[fC (I done<=i),ai k 3 [(.I ((i-I done):Nat))],ai N 21 [(.int .i32 (0:Nat))],ai P 3 [(.I (0:Nat))],ai Q 3 [(.I (0:Nat))],ai R 4 [(.bool false)]]) (λ done (g:(Nat×Nat×Nat))=>[fC (I done=i+1/\∃ u∈done,u.r=g.1),ai k 3 [(.I (0:Nat))],ai N 21 [(.int .i32 g.1)],ai P 3 [(.I g.2.1)],ai Q 3 [(.I g.2.2)],ai R 4 [(.bool true)]])
  (λ u b=>[(3,(.P k)),(4,(.P N)),(5,(.P P)),(6,(.P Q)),(7,(.P R)),(8,(.P b))]) (λ done (g:(Nat×Nat×Nat)) u b=>[fC (I done<=i),ai k 3 [(.I ((i-I done):Nat))],ai N 21 [(.int .i32 (0:Nat))],ai P 3 [(.I (0:Nat))],ai Q 3 [(.I (0:Nat))],ai R 4 [(.bool false)],ai b 276 [(.int .i32 u.r),(.I u.at_),(.I u.size)]]) (0,0,0) Y Y zi s7 (kH _ _ _ hn) ?_ ?_ ?_ ?_
 ·intro lp done u t w2 ds g hu H;refine CWR.weaken [(3,(.P k)),(4,(.P N)),(5,(.P P)),(6,(.P Q)),(7,(.P R)),(11,((gJ).ag u))] ⟨Y,Y,Y,Y,Y,Y,trivial⟩ ?_;refine CWR.region a0M ?_;refine .f Y (.alloc H qt λ b6 _ s8 _ _=>?_);have c8:=s8.mn;refine .f Y (.bo (vs:=(gJ).enc u) mF c8 (i:=6) Y Y Y Y ((gJ).one _) λ _ s9 _=>?_);have c9:=s9.sn;refine .j ?_;exact⟨b6,⟨Y,Y,Y,Y,Y,Y,trivial⟩,c9⟩
 ·intro lp done u t b w2 ds g hu H;refine CWR.block<|CWR.seq<|CWR.seq<|have e0:=H.lz;CWR.region a0M<|.e Y (.load ca Y (H.cell (i:=1) (j:=0) Y Y))<|.e Y (.W1 (b:=0) Y Y)<|.j<|CWR.ab Y (λ c1=>?_) λ c1=>?_
  ·refine CWR.seq<|CWR.dt [0,1,6] H Y (pl [0,1,2,3,4,5,1006,1007,1008,1009] .fin) λ a9 X=>.e Y (λ _ l=>.fieldAddr vB Y Y) X<|.e Y (λ _ l=>.load vk Y (l.cell (i:=2) (j:=0) Y Y)) X<|.e Y (λ _ l=>.fieldAddr mE Y Y) X<|.e Y (λ _ l=>.load ca Y (l.cell (i:=2) (j:=1) Y Y)) X<|.e Y (λ _ l=>.fieldAddr BX Y Y) X<|.e Y (λ _ l=>.load ca Y (l.cell (i:=2) (j:=2) Y Y)) X<|.f Y (.aG QE a9 (i:=2) Y Y Y Y Y λ _ b7 _=>have y:=b7.sn;have S2:=y.pt [0,1,6];⟨S2,?_⟩);refine .f Y (.aG dB y (i:=3) Y Y Y Y Y λ _ c0 _=>have A:=c0.sn;have S3:=A.pt [0,1,6];⟨S3,?_⟩);refine .f Y (.aG dB A (i:=4) Y Y Y Y Y λ _ c2 _=>have E:=c2.sn;have S4:=E.pt [0,1,6];⟨S4,?_⟩);refine .f Y (.aG LP E (i:=5) Y Y Y Y Y λ _ c3 _=>have K:=c3.sn;have S5:=K.pt [0,1,6];⟨S5,?_⟩);exact .fin<|CWR.ret<|have a1:=K.pt [0,1,2,3,4,5];⟨(u.r,u.at_,u.size),by rw[c1]at a1;exact a1.zl (q:=I (done++[u])=i+1/\∃ v∈done++[u],v.r=u.r) (λ hp=>⟨UC,u,bw,Y⟩)⟩
  refine CWR.skip<|CWR.region a0M<|.e Y (.load ca Y (H.cell (i:=1) (j:=0) Y Y))<|.e Y (.PQ (b:=1) Y Y O O)<|.f Y (.aG dB H (i:=1) Y Y Y Y Y λ _ c4 _=>have a2:=c4.sn;.j ?_);have a3:=a2.pt [0,1,2,3,4,5];have a5:i-I done-1=i-I (done++[u]):=by rw[AT];simp only[KP];omega
  exact⟨(0,0,0),by rw[a5]at a3;exact a3.zl (q:=I (done++[u])<=i) (λ hp=>by rw[AT];simp only[KP];omega)⟩
 ·intro D w2 g H;have a0:Sat w [fC (I (dh s.data.toList)<=i),ai k 3 [(.I ((i-I (dh s.data.toList)):Nat))],_,_,_,_,ai W 9 [(.string s)],iy D (some [])] w2:=H;refine .st 0 a0 2 Y λ _ c5 _=>.st 0 c5 3 Y λ _ c6 _=>.st 0 c6 4 Y λ _ T _=>?_;have T:=T.nn;refine .st 0 T 5 Y λ _ c7 _=>.j ?_;refine⟨[fC (I (dh s.data.toList)<=i),ai k 3 [(.I ((i-I (dh s.data.toList)):Nat))],ai N 21 [(.int .i32 (0:Nat))],ai P 3 [(.I (0:Nat))],ai Q 3 [(.I (0:Nat))],ai R 4 [(.bool false)],ai W 9 [(.string s)]],c7,λ w3 d=>?_⟩;have a4:=a0.lz;refine KF Y Y Y Y Y vk ca ca fI (d.cell (i:=2) (j:=0) Y Y) (d.cell (i:=3) (j:=0) Y Y) (d.cell (i:=4) (j:=0) Y Y) (d.cell (i:=5) (j:=0) Y Y) ?_;exact⟨0,0,0,false,Y,λ h=>a2T,λ _=>a4,d.sub (.cons _ (.cons _ (.cons _ (.cons _ (.cons _ (.cons _ (.cons _ (.cons _ .slnil))))))))⟩
 intro done u t D w2 g hu H;obtain⟨h1,v,hv,h2⟩:=H.lz;exact KF Y Y Y Y Y vk ca ca fI (H.cell (i:=2) (j:=0) Y Y) (H.cell (i:=3) (j:=0) Y Y) (H.cell (i:=4) (j:=0) Y Y) (H.cell (i:=5) (j:=0) Y Y) ⟨_,_,_,true,Y,λ _=>⟨by rw[hu];simp only[AT,No,Xv]at h1⊢;omega,v,by rw[hu,show done++u::t=(done++[u])++t by simp];exact YM _ hv,h2⟩,λ h=>a2T,H.sub (.cons _ (.cons _ (.cons _ (.cons _ (.cons _ (.cons _ (.cons _ (.cons _ .slnil))))))))⟩
def zA(s:ByteArray)(e:Rx)(w:World)(h:(s,e)∈Dq):
  CallsV prog 121 [(.string s)] w λ r W=>∃ (x:Rn) (d:List Nat),r= .tuple #[aS.ag x,.I ((0:Nat):Int),.I ((0:Nat):Int)]/\Sat w [fK d (λ w1=>RdRx w1 e x)] W:=by
 obtain⟨ls,p,P,a0,X,rfl,o,D⟩:=Qj h;have y:=gp s.data.toList;rw[tK]at y;have q:=Sat.start w;refine aa func121 Y Y<|.h<|.al 0 q Y λ b1 _ N _ _=>.W Y<|.h<|.a 1 Y (.br underlying9 Y)<|.Z Y<|.ak Y (IN O)<|.p<|.V Y<|.lq [0,2] Y (α:=Nat) (λ i=>[(5,(.I i))]) (λ i W=>Sat w N.L W/\(i<=I (dh s.data.toList))) (λ i=>I (dh s.data.toList)-i) 0 ⟨N,KD _⟩ ?_;rintro i b4 ⟨s2,hi⟩;refine .s<|.l<|.h<|.c 2 (Wi s i _ O O) Y ?_;rintro _ _ ⟨a6,a5,a9,a4,rfl,H,A,p1⟩;have Q:=s2.ay p1;refine .W Y<|.h<|.a 1 Y (.cK Y)<|.j<|.cond Y (λ K=>?_) (λ K=>?_)
 ·refine .vF Y<|.h<|.a 1 Y (.build Vr Y ⟨Y,trivial⟩ Y)<|.al 0 Q Y λ b2 _ E _ _=>have E:=E.nn;.sa 0 E 1 (vs:=[(.string s),(.I (0:Nat)),(.I (0:Nat)),(.I (0:Nat))]) Y t7 λ _ s5 _=>.j<|.h<|have T:=s5.tail.oc [1,0] 1;.c 0 (I3 _ _ _ _ 0 s T ls p P) Y ?_;rintro _ _ ⟨t,a3,rfl,p2⟩;have s6:=(Sat.order [2,0,1] bl p2.join).aH.nn;refine .al 3 s6 Y λ b3 _ s7 _ _=>.sa 0 s7 3 Y ((aS).one _) λ _ l _=>.W Y<|.h<|.ld 3 l 1 Y<|.a 1 Y (.br underlying9 Y)<|.Z Y<|.ak Y (IN O)<|.p<|.Z Y<|.ak Y Y<|.p<|.h<|.lo 0 l 3 Y<|.cq 0 l (I5 (KS ls) t _ o D (l.bE 2 Y)) Y λ _ R=>.Z Y<|.ak Y Y<|.k<|.h<|.lo 0 R 3 Y<|.sa 0 R 0 (vs:=[(.I t.op),(.I t.mn),(.I t.mx),t.rv.val,t.kv.val]) Y t7 λ _ k _=>.Z Y<|.ret ?_;show aE _ _ _ _ _ _;exact kP (vs:=[(.I t.op),(.I t.mn),(.I t.mx),t.rv.val,t.kv.val]) Y Y Y Y gz (λ j u hu=>k.cell (i:=0) Y hu) ⟨_,_,Y,k.pk [2]⟩
 exact .p<|have g:=H (by simpa using K);have a1:=UW P.asc g.2;have a2:=g.1;.r<|.z 3 Y<|.Gf 31 Y (IN O)<|.Z Y<|.ak Y Y<|.k<|.U Y<|aP (i+1) ⟨Q,O⟩
def FU(s:ByteArray)(w:World)(h:s∈Dq.map (·.1)):
  CallsV prog 117 [(.string s)] w λ r W=>r= .I ((0:Nat):Int)/\Sat w [] W:=by
 have H:=Sat.start w;refine aa func117 Y Y<|.Z Y<|.h<|.c 1 (zA s (yF s) _ (yG h)) Y ?_;rintro _ _ ⟨Q,q,rfl,p⟩;have g:=H.ay p;exact .al 4 g Y λ j _ i _ _=>.sa 0 i 1 Y ((aS).one _) λ _ d _=>have d:=d.nn;.Z Y<|.Z Y<|.ax Y Y ⟨Y,d.pk []⟩
def Cb(s:ByteArray)(w:World)(h:Qp s):CallsV prog 118 [.string s,.string (ws #[124])] w λ r W=>r= .bool false/\Sat w [] W:=by
 refine YS (Tryz.strings_Contains_one s 124 w) ?_;rintro e W ⟨rfl,rfl⟩;refine⟨_,Y,?_,Sat.start _⟩;rcases h with rfl|rfl<;>exact If Value.bool bl
def MX(c:Cd)(x:Cn)(w:World)(j:GdC false c)(h:RdCd w c x)(v:Value)(l:List (ByteArray×Bool))(i:RdL w v cj l)(k:l=cR):
  CallsV prog 67 [((aX).ag x),v,.N] w λ r w'=>r= .I ((0:Nat):Int)/\Sat w [] w':=by
 obtain⟨n2,K,n5,n6⟩:=NmX.of j h;obtain⟨R,p,W,N⟩:=CkX.of j h;have X:I l=3:=by rw[k]<;>rfl
 have u:=Sat.start w;refine aa func67 Y Y<|.h<|.bx 0 u Y λ b1 _ A _ _=>.W Y<|.h<|.lo 0 A 0 Y<|.cp 0 A (Nb _ _ _ j (h.E A.E)) Y λ _ o=>.Z Y<|.ak Y Y<|.p<|.h<|.lo 0 o 0 Y<|.cq 1 o (Nc _ _ _ j (h.E o.E) _ _ (i.E o.E) k) Y λ _ d=>.Z Y<|.ak Y Y<|.p<|.h<|.ld 1 d 0 Y<|.j<|.l<|.h<|.e Y (.eql Y Y)<|.Z Y<|.ab Y (λ Q=>?_) λ Q=>?_
 ·exact .h<|.ld 1 d 0 Y<|.cp 0 d (FU x.vl _ (R O)) Y λ _ s4=>.Z Y<|.ax Y Y ⟨Y,s4.pk []⟩
 refine .h<|.e Y (.eql Y Y)<|.Z Y<|.ab Y (λ q=>?_) λ q=>?_
 ·refine .s<|.s ?_;have E:=K O;have H:=Bp (N O);have y:l[C7 x.nm]? =some (jf [102,101,97,116],true):=by rw[H,k]<;>rfl
  exact .r<|.ld 3 d 0 Y<|.cp 0 d (y8 _ l x.nm _ (i.E d.E) k (K O)) Y λ _ g=>.ix 0 (i.E g.E) Y (hj:=(by rw[H];omega))<|.fl 0 (i.E g.E) Y<|.lf 0 (i.E g.E) y Y<|.e Y (.cK Y)<|.j<|.ak Y Y<|.k<|.h<|.ld 1 g 0 Y<|.e Y (.cN Y Y)<|.z 1 Y<|.Gf 35 Y (IN ((p O).1))<|.ld 1 g 0 Y<|.cp 0 g (Cb x.vl _ (p O).2.1) Y λ _ P=>.ld 3 P 0 Y<|.cq 0 P (fb x.vl _ ((p O).2.2)) Y λ _ s8=>.Z Y<|.ak Y Y<|.k<|.Z Y<|.ax Y Y ⟨Y,s8.pk []⟩
 refine .h<|.e Y (.eql Y Y)<|.Z Y<|.ab Y (λ t=>?_) λ t=>?_
 ·exact .h<|.ld 1 d 0 Y<|.cp 0 d (fb x.vl _ (W O)) Y λ _ D=>.Z Y<|.ak Y Y<|.k<|.Z Y<|.ax Y Y ⟨Y,D.pk []⟩
 refine .h<|.e Y (.eql Y Y)<|.Z Y<|.ab Y (λ T=>?_) λ T=>?_
 ·refine .s ?_;omega
 exact .k<|.Z Y<|.ax Y Y ⟨Y,d.pk []⟩
def R8(c:Cd)(x:Cn)(w:World)(j:GdC false c)(h:RdCd w c x)(v:Value)(l:List (ByteArray×Bool))(b b2:Nat)(i:w.cell? ⟨b,0,none⟩=some v)(H:w.cell? ⟨b2,0,none⟩=some .N)(o:RdL w v cj l)(k:l=cR):
  CallsV prog 66 [((aX).ag x),(.P b),(.P b2)] w λ r W=>r= .I ((0:Nat):Int)/\Sat w [] W:=by
 have g:=Sat.start w;exact aa func66 Y Y<|.h<|.bx 0 g Y λ q _ d _ _=>.Z Y<|.h<|.lo 0 d 0 Y<|.e Y (.load T3 Y (d.E _ _ i))<|.e Y (.load fB Y (d.E _ _ H))<|.cp 0 d (MX _ _ _ j (h.E d.E) _ _ (o.E d.E) k) Y λ _ p=>.Z Y<|.ax Y Y ⟨Y,p.pk []⟩
def I6(c:Cd)(x:Cn)(w:World)(P:GdC false c)(h:RdCd w c x)(v:Value)(l:List (ByteArray×Bool))(u:RdL w v cj l)(Q:l=cR)(hz:c.sz<=60)(hd:c.dp<=15):
  CallsV prog 27 [((aX).ag x),v,.N] w λ r w'=>r= .I ((0:Nat):Int)/\Sat w [] w':=by
 have g:=Sat.start w;refine aa func27 Y Y<|.h<|.bx 0 g Y λ D _ y _ _=>.bx 0 y Y λ p W A _ _=>?_;have k:Sat w [ai D 36 [(.I x.op),(.string x.nm),(.string x.ar),(.string x.vl),(.string x.lb),(.bool x.fo),x.kv.val],ai p 23 [v]] W:=by
  have R:=cells_one ((u.E y.E).ae);rw[R]at A;exact A
 refine .bx 0 k Y λ E _ o _ _=>.W Y<|.h<|.lo 0 o 0 Y<|.c 0 (wQ (c:=c) 0 1 _ O O (h.E o.E)) Y ?_;rintro _ _ ⟨T,rfl,t,X⟩;have d:=(o.ay X).nn;exact .Z Y<|.h<|.z 3 Y<|.Gf 16 Y (IN O)<|.Z Y<|.ak Y (IN O)<|.k<|.h<|.lo 0 d 0 Y<|.e Y (.nw Y Y)<|.cp 0 d (Ro VG _ P (h.E d.E) (λ q z w3 K N H=>R8 q z w3 K N v l p E (H.E _ _ (d.cell (i:=1) (j:=0) Y Y)) (H.E _ _ (d.cell (i:=2) (j:=0) Y Y)) (u.E (d.ay H).E) Q)) Y λ _ s5=>.Z Y<|.ax Y Y ⟨Y,s5.pk []⟩
