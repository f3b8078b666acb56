/-
 KP:more operations for the program logic of Kw:building structs,boxes,masks,signed shifts. Our own text;it names no program.
-/
import Derived.Test.YtcmldpiicnobnaaGreatDoorKw
import Derived.ProofKit
import Derived.HandedShaped
import Derived.LaidMore
import Derived.Laws.BytesString
import Derived.Laws.Strings
import Derived.Laws.Cover1
import Derived.ScopeJumps
import Derived.Lib.DecodeN
set_option linter.all false
open Go.Proofs.YtcmldpiicnobnaaGreatDoor
open List
namespace Go.Kw
open Go.RowKit
def je(pl:List (Nat×Nat)):List (Nat×Value)->List Value->Option (List Value)
 |[],zs=>some zs
 |(i,v)::r,zs=>match pl[i]? with
  |some (off,1)=>cond (Nat.ble (off+1) zs.length) (je pl r (zs.set off v)) none
  |_=>none
def ng:List (Nat×Value)->Prop
 |[]=>True
 |(_,v)::r=>v.oneCell'=true/\ng r
def cQ(L:aA):List (Nat×Operand)->Option (List (Nat×Value))
 |[]=>some []
 |(i,x)::r=>(aH L x).bind λ v=>(cQ L r).map ((i,v):: ·)
structure BuildTy(P:Program)(T:TypeId)(pl:List (Nat×Nat))(zs:List Value):Prop where
 zero:(P.info? T).map (·.zero)=some (some (.agg zs.toArray))
 und:∃ fs,P.underlying T=some (.struct fs)/\∀ w,(fs.mapM λ f=>do pure (f.offset,<-sizeOf f.type):Sem _).run P w= .ok pl.toArray w
def px(pl:List (Nat×Nat)):∀ (parts:List (Nat×Value)) (zs out:List Value),ng parts->je pl parts zs=some out->Instr.fill (pl.toArray[·]?) zs.toArray parts=some out.toArray
 |[],zs,out,_,h=>by simp only[je,PJ]at h;subst h;rfl
 |(i,v)::r,zs,out,h1,h=>by
  have hvc:v.cells= #[v]:=by have:=h1.1;cases v<;>first|rfl|cases this
  unfold je at h;cases hp:pl[i]? with
  |none=>simp[hp]at h
  |some q=>
   obtain⟨off,s⟩:=q;rw[hp]at h
   match s,h with
   |1,h=>
    simp only at h;cases hb:Nat.ble (off+1) zs.length with
    |false=>simp[hb]at h
    |true=>
     rw[hb]at h;have hle:=Pk hb;have ih:=px pl r (zs.set off v) out h1.2 h;simp only[Instr.fill,getElem?_toArray,hp,hvc];simp only[QM,KW,Oy,Pa,ne_eq,not_true,Rp,Bool.false_or,RL];rw[OB (by simp;omega)];simpa using ih
section
variable {P:Program} {n:Nat} {L:aA} {w w0:World} {cs:List Chunk} {K:Value->World->Prop} {d:Option Nat} {ty:TypeId} {pos:String} {af:Array Edge} {g:Option (Nat×Bool)}
def Ev.build{T:TypeId}{pl:List (Nat×Nat)}{zs out:List Value}{parts:List (Nat×Operand)}{vs:List (Nat×Value)}(hb:BuildTy P T pl zs)(hp:cQ L parts=some vs)(h1:ng vs)(ho:je pl vs zs=some out):
  Ev P n L w ⟨d,.build T parts.toArray,ty,pos,af,g⟩ (.agg out.toArray):=.of λ ρ hρ=>by
 have he:∀ (parts:List (Nat×Operand)) (vs:List (Nat×Value)),cQ L parts=some vs->parts.map (λ(i,x)=>(i,ρ x))=vs:=by
  intro parts;induction parts with
  |nil=>intro vs h;simp[cQ]at h;simp[h]
  |cons p r ih=>
   intro vs h;obtain⟨i,x⟩:=p;simp only[cQ,Qc,P3]at h;obtain⟨v,hv,us,hus,rfl⟩:=h;simp[hρ hv,ih us hus]
 obtain⟨fs,hu,hpl⟩:=hb.und;have hz:=hb.zero;have hfill:=px pl vs zs out h1 ho;cases hi:P.info? T with
 |none=>simp[hi]at hz
 |some inf=>
  simp[hi]at hz;have hrun:(Instr.build T vs.toArray).run P w= .ok (.agg out.toArray) w:=by
   simp only[Instr.build,zeroValue,typeInfo,ON];simp[hi,hz,OH hu];have:=hpl w;simp at this;have hfill':Instr.fill (λ x=>pl[x]?) zs.toArray vs=some out.toArray:=by simpa using hfill
   simp[this,Value.cells,hfill']
  simp only[execOp];rw[show(parts.toArray.map λ(i,x)=>(i,ρ x))=vs.toArray by rw[Qe,he parts vs hp]];simp only[ON,hrun,Ox,OR]
def uP(a m:Nat):a&&&(2^m-1)=a%2^m:=Nat.and_two_pow_sub_one_eq_mod a m
def D8{P:Program}{a b:Nat}(ha:a<2^63)(hb:b<2^63)(w:World):(Op.intBits .and .i64 a b).run P w= .ok (.int .i64 ((a&&&b:Nat):Int)) w:=by
 have:=tm (Nat.and_lt_two_pow a hb);have ha':a<2^IntKind.i64.bits:=by simp only[IntKind.bits];omega
 have hb':b<2^IntKind.i64.bits:=by simp only[IntKind.bits];omega
 simp only[Op.intBits,QI,BitVec.toNat_and,QP,P6 ha',P6 hb',this];rfl
def Ev.MD{x y:Operand}{xt yt:TypeId}{a b:Nat}(m:Nat)(hx:aH L x=some (.int .i64 (a:Int)))(hy:aH L y=some (.int .i64 (b:Int)))(hm:b=2^m-1)(ha:a<2^63)(hb:b<2^63):
  Ev P n L w ⟨d,.binOp .and xt x y yt,ty,pos,af,g⟩ (.int .i64 ((a%2^m:Nat):Int)):=
 .bin hx hy (Pf ..) λ w=>by rw[binOp_and,D8 ha hb,hm,uP]
def Ev.J8{x y:Operand}{xt yt:TypeId}{k:IntKind}{a b:Nat}(m:Nat)(hx:aH L x=some (.int k (a:Int)))(hy:aH L y=some (.int k (b:Int)))(hk:k.signed=false)(hm:b=2^m-1)(ha:a<2^k.bits)(hb:b<2^k.bits):
  Ev P n L w ⟨d,.binOp .and xt x y yt,ty,pos,af,g⟩ (.int k ((a%2^m:Nat):Int)):=by
 have:=Ev.NZ (P:=P) (n:=n) (w:=w) (d:=d) (xt:=xt) (yt:=yt) (ty:=ty) (pos:=pos) (af:=af) (g:=g) hx hy hk ha hb;rwa[hm,uP]at this
def Ev.Aj{x y:Operand}{xt yt:TypeId}{a b:Nat}(hx:aH L x=some (.int .i64 (a:Int)))(hy:aH L y=some (.int .i64 ((b:Int)-1)))(hba:b<=a+1)(h:a+1<=9223372036854775807):
  Ev P n L w ⟨d,.binOp .sub xt x y yt,ty,pos,af,g⟩ (.int .i64 ((a+1-b:Nat):Int)):=by
 have:=Ev.sub (P:=P) (n:=n) (w:=w) (d:=d) (xt:=xt) (yt:=yt) (ty:=ty) (pos:=pos) (af:=af) (g:=g) hx hy ⟨by omega,by omega⟩;rwa[show(a:Int)-((b:Int)-1)=((a+1-b:Nat):Int) by omega]at this
def OpE.eI{t e b:Nat}{z:Value}{α:Type}(E:Enc α)(hty:SlTy P t e E.s z b)(hs:Sat w0 cs w)
  (hk:∀ u w',Sat w0 (cs++[cL u e E []]) w'->Chg [] w w'->K u w'):OpE P n L w ⟨d,.buildSlice t 0 #[],ty,pos,af,g⟩ K:=by
 obtain⟨inf,i1,i2,i3,i4⟩:=hty.info;refine .val (λ ρ hρ=>?_) (hk _ _ (by have:=hs.ou e E.s 0 0 [] (by unfold maxLen;omega) (KP _) (by simp);rw[take_nil]at this;exact this) (.alloc _ _));have hrun:(Instr.buildSlice t 0 #[]).run P w= .ok (.slice (some ⟨w.heap.size,0,none⟩) 0 0) (w.alloc (.cells #[] e)):=by
  simp[Instr.buildSlice,OH hty.und,sizeOf,typeInfo,i1,i3,Instr.fill,newRow];simp[show Array.range 0=(#[]:Array Nat)from J]
 simp only[execOp,Qe,QS,ON,hrun,Ox,OR]
structure ArrTy(P:Program)(T m e s:Nat):Prop where
 und:P.underlying T=some (.array m e)
 size:(P.info? e).map (·.size)=some s
def Ev.yn{x i:Operand}{T m e s b o j:Nat}{k:IntKind}(hT:ArrTy P T m e s)(hx:aH L x=some (.pointer (some ⟨b,o,none⟩)))(hi:aH L i=some (.int k (j:Int)))(hj:j<m):
  Ev P n L w ⟨d,.indexAddr T x i,ty,pos,af,g⟩ (.pointer (some ⟨b,o+j*s,none⟩)):=.of λ ρ hρ=>by
 have hk:(0:Int)<=(j:Int)/\(j:Int)<(m:Int):=by omega
 have hz:=hT.size;cases hin:P.info? e with
 |none=>simp[hin]at hz
 |some inf=>
  simp[hin]at hz;simp only[execOp,hρ hx,hρ hi,Instr.indexAt,asIntOf,ON,OH hT.und,Ox];simp[Instr.sureAddr,sizeOf,typeInfo,hin,hz,hk,hj,Ph,go_sem]
def Sat.Ak{α:Type}{E:Enc α}(h:Sat w0 cs w)(i:Nat){b T j:Nat}{l:List α}{a:α}{u:Value}(hi:cs[i]? =some (aw b T (E.all l)))(ha:l[j]? =some a)(hs:0<E.s)(hu:(E.enc a)[0]? =some u):w.cell? ⟨b,0+j*E.s,none⟩=some u:=by
 rw[Pa];have:=E.all_get ha hs;rw[PZ]at this;exact h.cell hi (by rw[this];exact hu)
theorem OpE.setArr{α:Type}{E:Enc α}{x y:Operand}{T U b j:Nat}{u:Value}{l:List α}{a:α}(i:Nat)(hT:(P.info? T).map (·.size)=some 1)(hs:Sat w0 cs w)(hi:cs[i]? =some (aw b U (E.all l)))(hx:aH L x=some (.pointer (some ⟨b,0+j*E.s,none⟩)))
  (hy:aH L y=some u) (he:E.enc a=[u]) (hj:j<l.length) (hk:∀ w',Sat w0 (cs.set i (aw b U (E.all (l.set j a)))) w'->Chg [b] w w'->K undef w'):OpE P n L w ⟨d,.store T x y,ty,pos,af,g⟩ K:=by
 have h1:E.s=1:=by have:=E.len a;rw[he]at this;simpa using this.symm
 have hget:(E.all l)[j*E.s]? =some _:=py (by rw[E.all_length];exact QG hj (by omega));rw[Pa]at hx;refine OpE.bu hT hs hi hx hy (E.one a u (by rw[he];simp)) hget λ w' hS hC=>hk w' ?_ hC;rw[tq he hj]at hS;exact hS
end
@[reducible] def Enc.ag{α:Type}(E:Enc α)(a:α):Value:=.agg (E.enc a).toArray
def pz(vs:List Value):∀ (k:Nat) (pre rest:List Value),pre.length=k->vs.length<=rest.length->
  (vs.zipIdx k).foldl (λ(cs:Array Value) (c,j)=>cs.setIfInBounds j c) (pre++rest).toArray=(pre++vs++rest.drop vs.length).toArray:=by
 induction vs with
 |nil=>intro k pre rest _ _;simp
 |cons v r ih=>
  intro k pre rest hk hl;cases rest with
  |nil=>simp at hl
  |cons q rest=>
   simp only[zipIdx_cons,Q5];have e:((pre++q::rest).toArray.setIfInBounds k v)=((pre++[v])++rest).toArray:=by
    subst hk;simp
   rw[e,ih (k+1) (pre++[v]) rest (by simp[hk]) (by simpa using hl)];simp
section
variable {P:Program} {n:Nat} {L:aA} {w w0:World} {cs:List Chunk} {K:Value->World->Prop} {d:Option Nat} {ty:TypeId} {pos:String} {af:Array Edge} {g:Option (Nat×Bool)} {α:Type} {E:Enc α}
def LQ(v:Value)(m:Nat):Prop:=∃ a cap,v= .slice a m cap/\(0<m->∃ b o,a=some ⟨b,o,none⟩)
def RdL.iO{v:Value}{l:List α}(h:RdL w v E l)(hs:0<E.s):LQ v l.length:=by
 obtain⟨a,cap,rfl,_,hc⟩:=h;refine⟨a,cap,J,λ hp=>?_⟩;have hpos:0<(E.all l).length:=by rw[E.all_length];exact Nat.mul_pos hp hs
 obtain⟨b,o,ha,_⟩:=hc 0 _ (py hpos);exact⟨b,o,ha⟩
def Ev.nU{x i:Operand}{t e s b:Nat}{z v:Value}{m j:Nat}{k:IntKind}(hty:SlTy P t e s z b)(hx:aH L x=some v)(hi:aH L i=some (.int k (j:Int)))(h:LQ v m)(hj:j<m):
  Ev P n L w ⟨d,.indexAddr t x i,ty,pos,af,g⟩ (br v (j*s)):=.of λ ρ hρ=>by
 obtain⟨a,cap,rfl,ha⟩:=h;obtain⟨inf,h1,h2,h3,h4⟩:=hty.info;obtain⟨bb,o,rfl⟩:=ha (by omega);have hk:(0:Int)<=(j:Int)/\(j:Int)<(m:Int):=by omega
 simp only[execOp,hρ hx,hρ hi,Instr.indexAt,asIntOf];simp[OH hty.und,sizeOf,typeInfo,h1,h3,hk,br,go_sem,hj]
def Ev.Jf{x:Operand}{T:TypeId}{v:Value}{j:Nat}{l:List α}{a:α}(hT:db P T E.s=true)(hx:aH L x=some (br v (j*E.s)))(h:RdL w v E l)(ha:l[j]? =some a)(hs:0<E.s):
  Ev P n L w ⟨d,.load T x,ty,pos,af,g⟩ (E.ag a):=.of λ ρ hρ=>by
 obtain⟨ad,cap,rfl,_,hc⟩:=h;have hcell:∀ q u,(E.enc a)[q]? =some u->(E.all l)[j*E.s+q]? =some u:=λ q u hu=>by
  have hq:q<E.s:=by have:=(sp.1 hu).1;rw[E.len]at this;exact this
  rw[E.all_get ha hq];exact hu
 obtain⟨u0,hu0⟩:∃ u,(E.enc a)[0]? =some u:=⟨_,py (by rw[E.len];exact hs)⟩;obtain⟨bb,o,rfl,_⟩:=hc _ u0 (hcell 0 u0 hu0);have hx':ρ x= .pointer (some ⟨bb,o+j*E.s,none⟩):=by rw[hρ hx];simp[br,Ph]
 have hl:=Qn (P:=P) w ⟨bb,o+j*E.s,none⟩ (E.enc a) (λ q u hu=>by
  obtain⟨b2,o2,hb,hw⟩:=hc _ u (hcell q u hu);cases hb;rw[Ph,Qi];exact hw)
 rw[E.len]at hl;have hag:(isAgg T).run P w= .ok true w:=by
  unfold db at hT;cases hun:P.underlying T with
  |none=>simp[hun]at hT
  |some D=>cases D<;>simp[hun]at hT<;>simp[isAgg,OH hun,go_sem]
 have hsz:(sizeOf T).run P w= .ok E.s w:=by
  unfold db at hT;cases hin:P.info? T with
  |none=>simp[hin]at hT
  |some inf=>simp[hin]at hT;simp[sizeOf,typeInfo,hin,hT.2,go_sem]
 have hld:(Instr.loadAt T (ρ x)).run P w= .ok (E.ag a) w:=by
  simp only[Instr.loadAt,loadVar,hx',Instr.sureAddr,ON,OR,Ox,hag,hsz,hl,Qa]
 simp only[execOp,ON,hld,Ox,OR]
def D9{l:List α}{j:Nat}{a:α}(hj:j<l.length):(E.all l).take (j*E.s)++E.enc a++(E.all l).drop (j*E.s+E.s)=E.all (l.set j a):=by
 have e2:l.set j a=l.take j++a::l.drop (j+1):=by rw[PA];simp[hj]
 have e3:j*E.s+E.s=(j+1)*E.s:=by rw[Pp];omega
 rw[e2,E.all_append,E.all_cons,E.all_take,e3,E.all_drop,No]
def OpE.Lq{x y:Operand}{T e j:Nat}{v:Value}{l:List α}{a:α}(i:Nat)(hT:db P T E.s=true)(hs:Sat w0 cs w)(hi:cs[i]? =some (cL v e E l))(hx:aH L x=some (br v (j*E.s)))
  (hy:aH L y=some (E.ag a)) (hj:j<l.length) (hp:0<E.s) (hk:∀ w',Sat w0 (cs.set i (cL v e E (l.set j a))) w'->Chg (bz v) w w'->K undef w'):OpE P n L w ⟨d,.store T x y,ty,pos,af,g⟩ K:=by
 have hown:=hs.get hi;have hal:=E.all_length l;obtain⟨hl,⟨rfl,hn0⟩|⟨g,cap,cur,rfl,hg0,hh,hnc,hcm,hcs,ht⟩⟩:=id hown
 ·omega
 have hjs:j*E.s+E.s<=l.length*E.s:=by
  have:(j+1)*E.s<=l.length*E.s:=PS _ hj;rw[Pp]at this;omega
 have hcl:l.length*E.s<=cur.size:=by rw[hcs];exact PS _ hnc
 have hst:=Rj P g (j*E.s) e (E.enc a) 0 cur w hh (by rw[E.len];omega) (E.one a);rw[PZ,E.len]at hst;cases hin:P.info? T with
 |none=>unfold db at hT;simp[hin]at hT
 |some inf=>
  have hsz:inf.size=E.s:=by unfold db at hT;simp[hin]at hT;exact hT.2
  refine .unit (w':=w.setRow g (cur.toList.take (j*E.s)++E.enc a++cur.toList.drop (j*E.s+E.s)).toArray) (λ ρ hρ=>?_) (hk _ (hs.set i hi ⟨J,J,J,by simp,λ k _ hk=>R5 w g k _ (λ e=>hk (by simp[cL,qO,bz,e]))⟩ ?_ (λ _ hk=>.inl hk)) ⟨J,J,J,by simp,λ k _ hk=>R5 w g k _ (λ e=>hk (by simp[bz,e]))⟩)
  ·have hx':ρ x= .pointer (some ⟨g,j*E.s,none⟩):=by rw[hρ hx];simp[br,Ph]
   have hrun:(Instr.storeAt T (.pointer (some ⟨g,j*E.s,none⟩)) (E.ag a)).run P w= .ok () (w.setRow g (cur.toList.take (j*E.s)++E.enc a++cur.toList.drop (j*E.s+E.s)).toArray):=by
    simp[Instr.storeAt,Instr.sureAddr,storeVar,sizeOf,typeInfo,hin,hsz,Value.cells,E.len,hst]
   simp only[execOp,hx',hρ hy,ON,hrun,Ox,OR]
  ·refine⟨E.all_length _,.inr ⟨g,cap,_,?_,hg0,Ss w g cur _ e _ hh,by rw[Oz];omega,hcm,?_,?_⟩⟩
   ·rw[Oz]
   ·simp only[QM,AT,M2,OJ,Qg,E.len];rw[hcs];rw[hcs]at hcl;omega
   ·rw[Oz,<-D9 hj,<-ht];simp only[toList_toArray];apply QN;intro q;simp only[Pg,getElem?_append,AT,M2,Qg,E.len,Q0,OJ];rw[Pq (by omega:j*E.s<=cur.size),Pq (by omega:l.length*E.s<=cur.size),Pq (by omega:j*E.s<=l.length*E.s)];by_cases h1:q<j*E.s
    ·simp[h1,show q<j*E.s+E.s by omega,show q<l.length*E.s by omega]
    ·by_cases h2:q<j*E.s+E.s
     ·simp[h1,h2,show q<l.length*E.s by omega]
     ·simp only[h1,h2,Py];by_cases h3:q<l.length*E.s
      ·simp[h3,show j*E.s+E.s+(q-(j*E.s+E.s))=q by omega]
      ·simp[h3,show¬ j*E.s+E.s+(q-(j*E.s+E.s))<l.length*E.s by omega]
def OpE.aO{x:Operand}{t e b:Nat}{z:Value}(E:Enc α)(a:α)(hty:SlTy P t e E.s z b)(hp:0<E.s)(hs24:E.s<=16777216)(hs:Sat w0 cs w)(hx:aH L x=some (E.ag a))
  (hk:∀ u w',Sat w0 (cs++[cL u e E [a]]) w'->Chg [] w w'->K u w'):OpE P n L w ⟨d,.buildSlice t 1 #[(0,x)],ty,pos,af,g⟩ K:=by
 obtain⟨inf,i1,i2,i3,i4⟩:=hty.info;have hz:=hty.zs;refine .val (λ ρ hρ=>?_) (hk (.slice (some ⟨w.heap.size,0,none⟩) 1 1) (w.alloc (.cells (E.enc a).toArray e)) ?_ (.alloc _ _))
 ·have hfill:∀ zc:Array Value,Instr.fill (λ i=>some (i*inf.size,inf.size)) ((Array.range (1*inf.size)).map (zc[· %zc.size]!)) [(0,E.ag a)]=some (E.enc a).toArray:=λ zc=>by
   have hf:=pz (E.enc a) 0 [] ((List.range (1*inf.size)).map (zc[· %zc.size]!)) J (by simp[E.len,i3]);simp only[Q6]at hf;have hsz:(E.enc a).length=inf.size:=by rw[E.len,i3]
   have e1:(Array.range (1*inf.size)).map (zc[· %zc.size]!)=((List.range (1*inf.size)).map (zc[· %zc.size]!)).toArray:=by
    apply RY;simp
   have e2:(List.drop (E.enc a).length ((List.range (1*inf.size)).map (zc[· %zc.size]!)))=[]:=P8 (by simp[hsz]);rw[e2,PF]at hf;rw[e1];have hagc:(E.ag a).cells=(E.enc a).toArray:=rfl;simp only[Instr.fill,hagc,Rq,Pa];rw[OB (by simp[hsz])];have hz2:(E.enc a).toArray.zipIdx.toList=(E.enc a).zipIdx:=by simp
   rw[<-Array.foldl_toList,hz2];exact If some hf
  have hrun:(Instr.buildSlice t 1 #[(0,E.ag a)]).run P w= .ok (.slice (some ⟨w.heap.size,0,none⟩) 1 1) (w.alloc (.cells (E.enc a).toArray e)):=by
   have hf:=hfill z.cells;rw[i3,Qw]at hf;have h24:¬ 2^24<E.s:=by omega
   have h0:¬ E.s=0:=by omega
   have r1:(zeroValue e).run P w= .ok z w:=by simp[zeroValue,typeInfo,i1,i2,go_sem]
   have r2:(sizeOf e).run P w= .ok E.s w:=by simp[sizeOf,typeInfo,i1,i3,go_sem]
   have r3:(newRow e (E.enc a).toArray).run P w= .ok ⟨w.heap.size,0,none⟩ (w.alloc (.cells (E.enc a).toArray e)):=by simp[newRow,go_sem]
   simp only[Instr.buildSlice,OH hty.und,r2,ON,Ox,Qw,RL,h24,h0,Py,r1,OR,hf,r3]
  simp only[execOp,Qe,P5,QS,hρ hx,ON,hrun,Ox,OR]
 ·have h:=hs.ou e E.s 1 1 (E.enc a) (by unfold maxLen;omega) (KP _) (by rw[E.len];omega);unfold cL;rw[E.all_one];rw[OA (by rw[E.len];omega)]at h;exact h
def OpE.aQ{x y:Operand}{T i b:Nat}{U:TypeId}{cells vs:List Value}(hT:db P T vs.length=true)(hs:Sat w0 cs w)(hi:cs[i]? =some (aw b U cells))(hl:vs.length=cells.length)(hx:aH L x=some (.pointer (some ⟨b,0,none⟩)))
  (hy:aH L y=some (.agg vs.toArray)) (h1:∀ v∈vs,v.oneCell'=true) (hk:∀ w',Sat w0 (cs.set i (aw b U vs)) w'->Chg [b] w w'->K undef w'):OpE P n L w ⟨d,.store T x y,ty,pos,af,g⟩ K:=by
 have hh:w.heap[b]? =some (.cells cells.toArray U (0,0)):=hs.get hi;have hst:=Rj P b 0 U vs 0 cells.toArray w hh (by simp;omega) h1;have hcur:(cells.toArray.toList.take (0+0)++vs++cells.toArray.toList.drop (0+0+vs.length))=vs:=by simp[hl]
 rw[hcur]at hst;cases hin:P.info? T with
 |none=>unfold db at hT;simp[hin]at hT
 |some inf=>
  have hsz:inf.size=vs.length:=by unfold db at hT;simp[hin]at hT;exact hT.2
  refine .unit (w':=w.setRow b vs.toArray) (λ ρ hρ=>?_) (hk _ (hs.set i hi ⟨J,J,J,by simp,λ k _ hk=>R5 w b k _ (λ e=>hk (by simp[aw,e]))⟩ (Ss w b _ _ U _ hh) (λ _ hk=>.inl hk)) ⟨J,J,J,by simp,λ k _ hk=>R5 w b k _ (λ e=>hk (by simp[e]))⟩);have hrun:(Instr.storeAt T (.pointer (some ⟨b,0,none⟩)) (.agg vs.toArray)).run P w= .ok () (w.setRow b vs.toArray):=by
   simp[Instr.storeAt,Instr.sureAddr,storeVar,sizeOf,typeInfo,hin,hsz,Value.cells,hst]
  simp only[execOp,hρ hx,hρ hy,ON,hrun,Ox,OR]
def Bg(t e:TypeId)(a:Option Addr)(m c:Nat)(h:P.underlying t=some (.slice e))(w:World):(binOp .eql t (.slice a m c) (.slice none 0 0)).run P w= .ok (.bool a.isNone) w:=by
 have:∀ d,(Op.equalIn (d+1) t (.slice a m c) (.slice none 0 0)).run P w= .ok a.isNone w:=λ d=>by cases a<;>simp[Op.equalIn,OH h]
 simp only[binOp];simp[Op.equal,Op.maxDepth,this 9999]
def Bh(t e:TypeId)(a:Option Addr)(h:P.underlying t=some (.pointer e))(w:World):(binOp .eql t (.pointer a) (.pointer none)).run P w= .ok (.bool a.isNone) w:=by
 have:∀ d,(Op.equalIn (d+1) t (.pointer a) (.pointer none)).run P w= .ok a.isNone w:=λ d=>by cases a<;>simp[Op.equalIn,OH h]
 simp only[binOp];simp[Op.equal,Op.maxDepth,this 9999]
section
variable {x y:Operand} {t e T:TypeId} {v:Value} {m:Nat}
def Ev.Ll(hu:P.underlying t=some (.slice e))(hx:aH L x=some v)(hy:aH L y=some (.slice none 0 0))(h:LQ v m)(hm:0<m):Ev P n L w ⟨d,.binOp .eql t x y T,ty,pos,af,g⟩ (.bool false):=by
 obtain⟨a,c,rfl,ha⟩:=h;obtain⟨b,o,rfl⟩:=ha hm;exact .bin hx hy (by rfl) λ w=>Bg t e _ m c hu w
def Ev.Jb{a:Option Addr}(hu:P.underlying t=some (.pointer e))(hx:aH L x=some (.pointer a))(hy:aH L y=some (.pointer none)):Ev P n L w ⟨d,.binOp .eql t x y T,ty,pos,af,g⟩ (.bool a.isNone):=
 .bin hx hy (by rfl) λ w=>Bh t e a hu w
end
def Ev.nS{x:Operand}{f:FuncId}{v:Value}(hx:aH L x=some v):Ev P n L w ⟨d,.makeFunc (.func f) #[] #[x],ty,pos,af,g⟩ (.func (.func f) #[] #[v]):=.of λ ρ hρ=>by
 simp[execOp,Instr.makeFunc,hρ hx,go_sem]
end
structure SV where
 a:Option Addr
 n:Nat
 c:Nat
@[reducible] def SV.val(s:SV):Value:=.slice s.a s.n s.c
def RdL.sv{α:Type}{w:World}{v:Value}{E:Enc α}{l:List α}(h:RdL w v E l):∃ s:SV,v=s.val/\s.n=l.length:=by
 obtain⟨a,cap,rfl,_⟩:=h;exact⟨⟨a,l.length,cap⟩,J,J⟩
def iU(cs:List Chunk):Chunk where
 foot:=cs.flatMap Chunk.foot
 holds w:=(∀ c∈cs,c.holds w)/\cs.Pairwise λ(c d:Chunk)=>∀ k∈c.foot,k∉d.foot
 stable w w' h hc:=⟨λ c hm=>c.stable w w' (λ k hk=>h k (Q9.2 ⟨c,hm,hk⟩)) (hc.1 c hm),hc.2⟩
def Sat.fW{w0 w:World}{P ds Q:List Chunk}:Sat w0 (P++iU ds::Q) w↔Sat w0 (P++(ds++Q)) w:=by
 constructor
 ·intro h;have hA:=h.holds (iU ds) (by simp);have hp:=PQ.1 h.apart;have hq:=P2.1 hp.2.1;refine⟨h.old,λ c hc=>?_,?_⟩
  ·simp only[OM]at hc;rcases hc with hc|hc|hc
   ·exact h.holds c (by simp[hc])
   ·exact⟨hA.1.1 c hc,λ k hk=>hA.2 k (Q9.2 ⟨c,hc,hk⟩)⟩
   ·exact h.holds c (by simp[hc])
  ·rw[PQ,PQ];refine⟨hp.1,⟨hA.1.2,hq.2,λ c hc d hd k hk=>hq.1 d hd k (Q9.2 ⟨c,hc,hk⟩)⟩,λ c hc d hd k hk hk2=>?_⟩;rcases OM.1 hd with hd|hd
   ·exact hp.2.2 c hc (iU ds) (by simp) k hk (Q9.2 ⟨d,hd,hk2⟩)
   ·exact hp.2.2 c hc d (by simp[hd]) k hk hk2
 ·intro h;have hp:=PQ.1 h.apart;have hq:=PQ.1 hp.2.1;refine⟨h.old,λ c hc=>?_,?_⟩
  ·simp only[OM,LD]at hc;rcases hc with hc|rfl|hc
   ·exact h.holds c (by simp[hc])
   ·refine⟨⟨λ c hc=>(h.holds c (by simp[hc])).1,hq.1⟩,λ k hk=>?_⟩;obtain⟨c,hc,hk⟩:=Q9.1 hk;exact(h.holds c (by simp[hc])).2 k hk
   ·exact h.holds c (by simp[hc])
  ·rw[PQ,P2];refine⟨hp.1,⟨λ d hd k hk hk2=>?_,hq.2.1⟩,λ c hc d hd k hk hk2=>?_⟩
   ·obtain⟨c,hc,hk⟩:=Q9.1 hk;exact hq.2.2 c hc d hd k hk hk2
   ·rcases LD.1 hd with rfl|hd
    ·obtain⟨d,hd,hk2⟩:=Q9.1 hk2;exact hp.2.2 c hc d (by simp[hd]) k hk hk2
    ·exact hp.2.2 c hc d (by simp[hd]) k hk hk2
def Sat.push{w0 w:World}{A ds:List Chunk}{d:Chunk}(h:Sat w0 (A++[d]) w)(i:Nat)(hi:A[i]? =some (iU ds)):Sat w0 (A.set i (iU (ds++[d]))) w:=by
 obtain⟨hil,hid⟩:=sp.1 hi;have e1:A=A.take i++iU ds::A.drop (i+1):=by rw[<-hid];simp
 rw[e1,No,PE,Sat.fW]at h;rw[PA,Ow hil,Sat.fW];refine h.perm (Ql _ ?_);rw[No];exact Ql _ RE
section
variable {α:Type} {E:Enc α} {e:Nat} {w0 w:World} {cs:List Chunk}
def cv(e:Nat)(E:Enc α)(ps:List (SV×List α)):Chunk:=iU (ps.map λ p=>cL p.1.val e E p.2)
def Sat.u7(h:Sat w0 cs w)(e:Nat)(E:Enc α):Sat w0 (cs++[cv e E []]) w:=by
 have:Sat w0 (cs++iU []::[]) w:=Sat.fW.2 (by simpa using h);exact this
def Sat.mS{A:List Chunk}{s:SV}{l:List α}{ps:List (SV×List α)}(h:Sat w0 (A++[cL s.val e E l]) w)(i:Nat)(hi:A[i]? =some (cv e E ps)):Sat w0 (A.set i (cv e E (ps++[(s,l)]))) w:=by
 have:=h.push i hi;rw[cv,Pw];exact this
theorem Sat.bP(h:Sat w0 cs w)(i:Nat){ps:List (SV×List α)}(hi:cs[i]? =some (cv e E ps)){k:Nat}{p:SV×List α}(hk:ps[k]? =some p):RdL w p.1.val E p.2:=by
 have:=(h.get hi).1 (cL p.1.val e E p.2) (Pj (OD hk));exact Rd.nT this
def dN(α:Type):Enc (SV×List α):=⟨1,λ p=>[p.1.val],λ _=>J,λ p v h=>by simp at h;rw[h];rfl⟩
end
section
variable {P:Program} {n:Nat} {L:aA} {w:World} {K:Value->World->Prop} {d:Option Nat} {ty:TypeId} {pos:String} {af:Array Edge} {g:Option (Nat×Bool)}
end
end Go.Kw
namespace Go.Kw
open Go.ChangeShapes Go.WideShapes Go.ChangeAt Go.RowKit
section
variable {H:Type} {enc:TypeId×Value->H} {P:Program} {w:World}
end
def lR{H:Type}{enc:TypeId×Value->H}{a:Assume}{C:Checked}{os:Os}{f:FuncId}{fn:Func}{s:ChangeSpec}{conds:List PathCond}{apart fresh handsOn again:Bool}{X:World->Array Value->Prop}
  (hX:∀ (w w':World) (args:Array Value),w.heap=w'.heap->X w args->X w' args)
  (own:ownKnob C.prog.godebug=none) (started:os.Started) (noInit:C.prog.inits.idxOf? f=none) (hfn:C.prog.funcs[f]? =some fn)
  (witness:∃ (w:World) (tape:Tape) (i:Input),w.os=os/\(w.forCall tape i).Shaped C.prog/\i.vars=[]/\Input.okWide C.prog (w.forCall tape i) .any w.heap.size f i/\
   ((s.pre enc C.prog fn conds apart (w.forCall tape i).memory i.args/\X (w.forCall tape i).memory i.args)/\sizedMet enc C.prog fn (OpenSpec.ofChange s) apart (w.forCall tape i).memory i.args)/\a.holds C.prog (lone (Frame.enter C.prog f i.args .normal) [] (w.forCall tape i)))
  (contract:∀ (W:World) (base:Nat) (args:Array Value) (ds gs:List (DataW H)) (before:List MemPlace),
   (∀ (j:Nat) t v,fn.params[j]? =some t->args[j]? =some v->Value.okWide C.prog W .any base t v)->
   DataW.Whole enc C.prog fn.params.toList s.vars apart W args.toList ds gs before->X W args->W.ShapedOpen C.prog->
   Calls C.prog f args W λ e W'=>∃ v,e= .returned v/\s.post enc C.prog fn apart fresh handsOn again W args v W'):
  ReturnsInHanded a C os f .any (λ w args=>(s.pre enc C.prog fn conds apart w args/\X w args)/\sizedMet enc C.prog fn (OpenSpec.ofChange s) apart w args) (s.post enc C.prog fn apart fresh handsOn again):=by
 refine returnsInHanded_of_calls own started noInit witness ?_;intro w tape i _ hsh _ hok hpre hholds;obtain⟨_,_,_,fn',hfn',_,_,_,_,hval⟩:=hok;have e:fn'=fn:=OG (hfn'.symm.trans hfn);subst e;obtain⟨⟨⟨ds,gs,before,hw,hc⟩,hx⟩,hz⟩:=hpre;have hw':=DataW.Whole.of_heap (w':=w.forCall tape i) (by rfl) hw;refine(contract (w.forCall tape i) w.heap.size i.args ds gs before hval hw' (hX _ _ _ (by rfl) hx) hsh).mono λ e W' ⟨v,he,hp⟩=>?_;subst he;exact ChangeSpec.post_blind hp
end Go.Kw
namespace Go.Kw
open Go.RowKit
section
variable {P:Program} {n:Nat} {L:aA} {w w0:World} {cs:List Chunk} {K:Value->World->Prop} {d:Option Nat} {ty:TypeId} {pos:String} {af:Array Edge} {g:Option (Nat×Bool)} {α:Type} {E:Enc α}
def pA(size:Nat):Value->Value
 | .slice a m _=>.slice (if m=0 then a else a.map (·.add (0*size))) m m
 |_=>undef
theorem Rd.full{v:Value}{m:Nat}{cells:List Value}(h:Rd w v m cells)(size:Nat):Rd w (pA size v) m cells:=by
 obtain⟨a,cap,rfl,hn,hc⟩:=h;refine⟨_,m,J,KP _,λ j u hu=>?_⟩;obtain⟨b,o,rfl,hw⟩:=hc j u hu;split
 ·exact⟨b,o,J,hw⟩
 ·exact⟨b,o+0*size,by simp[Ph],by rw[Rq,PZ];exact hw⟩
def Iu(v:Value):Prop:=∃ a m,v= .slice a m m
theorem RdL.full{v:Value}{l:List α}(h:RdL w v E l):RdL w (pA E.s v) E l/\Iu (pA E.s v):=by
 refine⟨Rd.full h E.s,?_⟩;obtain⟨a,cap,rfl,_⟩:=h;exact⟨_,_,J⟩
def Ev.C5{x h m:Operand}{t e b:Nat}{z v:Value}{l:List α}{k k':IntKind}(hty:SlTy P t e E.s z b)(hx:aH L x=some v)(hr:RdL w v E l)(hh:aH L h=some (.int k (l.length:Int)))(hm:aH L m=some (.int k' (l.length:Int))):
  Ev P n L w ⟨d,.slice t x none (some h) (some m),ty,pos,af,g⟩ (pA E.s v):=.of λ ρ hρ=>by
 obtain⟨a,cap,rfl,hmc,hc⟩:=hr;obtain⟨inf,i1,i2,i3,i4⟩:=hty.info;have h1:(0:Int)<=(l.length:Int)/\(l.length:Int)<=(cap:Int):=by omega
 have h2:(0:Int)<=(l.length:Int)/\(l.length:Int)<=(l.length:Int):=by omega
 have hsb:∀ w:World,(Instr.sliceBounds true l.length cap none (some (.int k (l.length:Int))) (some (.int k' (l.length:Int)))).run P w= .ok (0,l.length,l.length) w:=λ w=>by
  simp[Instr.sliceBounds,Instr.sliceBound,asIntOf,hmc,go_sem]
 simp only[execOp,hρ hx,hρ hh,hρ hm,Instr.sliceAt,Instr.slice,ON,OH hty.und,Ox,Rx,PY,hsb];simp[sizeOf,typeInfo,i1,i3,pA,go_sem]
def OpE.yu{x y:Operand}{t tx e b e':Nat}{z v u:Value}{l m:List α}(hty:SlTy P t e E.s z b)(hs:Sat w0 cs w)(hx:aH L x=some v)(hy:aH L y=some u)(hv:RdL w v E l)(hF:Iu v)
  (hk:P.underlying tx=some (.slice e')) (hr:RdL w u E m) (hm:0<m.length) (h63:l.length+m.length<=140737488355328) (hb:(l.length+m.length)*b<=140737488355328) (hc:∀ v' w',Sat w0 (cs++[cL v' e E (l++m)]) w'->Chg [] w w'->K v' w'):
  OpE P n L w ⟨d,.call ⟨.builtin .append,#[x,y],#[t,tx]⟩,ty,pos,af,g⟩ K:=by
 obtain⟨inf,i1,i2,i3,i4⟩:=hty.info;have hsrc:Src P E.s tx u m.length (E.all m) w:=Src.FE J hk hr;obtain⟨a,cap,rfl,hn,hcell⟩:=id hv;obtain⟨a2,m2,hF⟩:=hF;cases hF;have hf:∀ w':World,w'.heap=w.heap->(Builtin.firstCells inf.size l.length (.slice a l.length l.length)).run P w'= .ok (E.all l).toArray w':=λ w' hw'=>by
  cases a with
  |none=>
   have hnil:E.all l=[]:=by
    cases hl:E.all l with
    |nil=>rfl
    |cons q r=>obtain⟨bb,o,hb,_⟩:=hcell 0 q (by rw[hl];rfl);cases hb
   rw[hnil];exact run_firstCells_none w' inf.size _ _ _
  |some a=>
   refine run_firstCells_some w' inf.size l.length a _ _ (E.all l) (by rw[E.all_length,i3]) λ j u hu=>?_;obtain⟨bb,o,hb,hw⟩:=hcell j u hu;cases hb;rw[Ph];simp only[World.cell?,hw']at hw⊢;exact hw
 subst i4;have hr2:=run_append_grow_src (P:=P) w t tx ty e inf z hty.und i1 i2 a l.length l.length (E.all l) (hf _ J) u m.length (E.all m) (by rw[i3];exact hsrc) (by omega) (by omega) (growslice_fits (by omega) hb);generalize hrow:(E.all l++E.all m).toArray++Builtin.zeroCells z.cells (grownCap w (l.length+m.length) l.length e-(l.length+m.length))=row at hr2;have hC:Chg [] w (w.drew.alloc (.cells row e)):=⟨J,J,J,by simp,λ k hk _=>heap_alloc_old w.drew _ hk⟩;refine .val (λ ρ hρ=>?_) (hc (.slice (some ⟨w.heap.size,0,none⟩) (l.length+m.length) (grownCap w (l.length+m.length) l.length e)) _ (hs.add hC ?_ (by simp[cL,qO,bz])) hC)
 ·have h1:=hρ hx;have h2:=hρ hy;simp only[Ry,BigFrame.builtin_append];simp only[Qe,P5,QS,h1,h2,ON,hr2,Ox,OR]
 ·have hge:=RO w (l.length+m.length) l.length e;have hcm:=grownCap_le_maxLen w (l.length+m.length) l.length e (by unfold maxLen;omega);refine⟨by rw[E.all_length],.inr ⟨_,grownCap w (l.length+m.length) l.length e,_,?_,IN _,QY w.drew _,by rw[AT];exact hge,hcm,?_,?_⟩⟩
  ·rw[AT];rfl
  ·rw[<-hrow];simp only[Sc,QM,size_zeroCells,hty.zs,AT,E.all_length,<-Pp];congr 1;omega
  ·rw[E.all_append,<-hrow];simp only[RN];have:(E.all l++E.all m).length=(l++m).length*E.s:=by rw[<-E.all_append,E.all_length]
   rw[<-this];exact take_left
def Ev.FC{x:Operand}{T m e s b:Nat}(hT:ArrTy P T m e s)(hm:0<m)(hx:aH L x=some (.pointer (some ⟨b,0,none⟩))):Ev P n L w ⟨d,.slice T x none none none,ty,pos,af,g⟩ (.slice (some ⟨b,0,none⟩) m m):=.of λ ρ hρ=>by
 have hz:=hT.size;cases hin:P.info? e with
 |none=>simp[hin]at hz
 |some inf=>
  simp[hin]at hz;have hsb:=λ w=>fC (P:=P) (isSl:=false) (len:=m) (cap:=m) (l:=0) (h:=m) (low:=none) (high:=none) J J (IN _) (KP _) w;have h0:¬ m=0:=by omega
  simp only[execOp,hρ hx,Instr.sliceAt,ON,OH hT.und,Ox,Instr.sureAddr,OR,Rx,hsb];simp[sizeOf,typeInfo,hin,hz,h0,Ph,go_sem]
def Sat.MF(h:Sat w0 cs w)(i:Nat){b T:Nat}{l:List α}(hi:cs[i]? =some (aw b T (E.all l))){m:Nat}(hm:m=l.length):RdL w (.slice (some ⟨b,0,none⟩) m m) E l:=by
 subst hm;refine⟨some ⟨b,0,none⟩,l.length,J,KP _,λ j u hu=>⟨b,0,J,?_⟩⟩;rw[Pa];exact h.cell hi hu
structure BuildAr(P:Program)(T m e:Nat)(zs:List Value):Prop where
 zero:(P.info? T).map (·.zero)=some (some (.agg zs.toArray))
 und:P.underlying T=some (.array m e)
 size:(P.info? e).map (·.size)=some 1
def setArr:List (Nat×Value)->List Value->Option (List Value)
 |[],zs=>some zs
 |(i,v)::r,zs=>cond (Nat.ble (i+1) zs.length) (setArr r (zs.set i v)) none
def pB:∀ (parts:List (Nat×Value)) (zs out:List Value),ng parts->setArr parts zs=some out->Instr.fill (λ i=>some (i*1,1)) zs.toArray parts=some out.toArray
 |[],zs,out,_,h=>by simp only[setArr,PJ]at h;subst h;rfl
 |(i,v)::r,zs,out,h1,h=>by
  have hvc:v.cells= #[v]:=by have:=h1.1;cases v<;>first|rfl|cases this
  unfold setArr at h;cases hb:Nat.ble (i+1) zs.length with
  |false=>rw[hb]at h;cases h
  |true=>
   rw[hb]at h;have hle:=Pk hb;have ih:=pB r (zs.set i v) out h1.2 h;simp only[Instr.fill,hvc,PL];simp only[QM,KW,Oy,Pa,ne_eq,not_true,Rp,Bool.false_or,RL];rw[OB (by simp;omega)];simpa using ih
def Ev.FA{T m e:Nat}{zs out:List Value}{parts:List (Nat×Operand)}{vs:List (Nat×Value)}(hb:BuildAr P T m e zs)(hp:cQ L parts=some vs)(h1:ng vs)(ho:setArr vs zs=some out):
  Ev P n L w ⟨d,.build T parts.toArray,ty,pos,af,g⟩ (.agg out.toArray):=.of λ ρ hρ=>by
 have he:∀ (parts:List (Nat×Operand)) (vs:List (Nat×Value)),cQ L parts=some vs->parts.map (λ(i,x)=>(i,ρ x))=vs:=by
  intro parts;induction parts with
  |nil=>intro vs h;simp[cQ]at h;simp[h]
  |cons p r ih=>
   intro vs h;obtain⟨i,x⟩:=p;simp only[cQ,Qc,P3]at h;obtain⟨v,hv,us,hus,rfl⟩:=h;simp[hρ hv,ih us hus]
 have hz:=hb.zero;have hs:=hb.size;have hfill:=pB vs zs out h1 ho;cases hi:P.info? T with
 |none=>simp[hi]at hz
 |some inf=>
  cases hie:P.info? e with
  |none=>simp[hie]at hs
  |some infe=>
   simp[hi]at hz;simp[hie]at hs;have hrun:(Instr.build T vs.toArray).run P w= .ok (.agg out.toArray) w:=by
    simp only[Instr.build,zeroValue,typeInfo,ON];simp only[PL]at hfill;simp[hi,hz,OH hb.und,sizeOf,typeInfo,hie,hs,Value.cells,hfill]
   simp only[execOp];rw[show(parts.toArray.map λ(i,x)=>(i,ρ x))=vs.toArray by rw[Qe,he parts vs hp]];simp only[ON,hrun,Ox,OR]
def ed{T b:Nat}{vs:List Value}(hT:db P T vs.length=true)(h:∀ j u,vs[j]? =some u->w.cell? ⟨b,j,none⟩=some u):(loadVar T ⟨b,0,none⟩).run P w= .ok (.agg vs.toArray) w:=by
 have hl:=Qn (P:=P) w ⟨b,0,none⟩ vs (λ q u hu=>by rw[Ph,Pa];exact h q u hu);have hag:(isAgg T).run P w= .ok true w:=by
  unfold db at hT;cases hun:P.underlying T with
  |none=>simp[hun]at hT
  |some D=>cases D<;>simp[hun]at hT<;>simp[isAgg,OH hun,go_sem]
 have hsz:(sizeOf T).run P w= .ok vs.length w:=by
  unfold db at hT;cases hun:P.underlying T with
  |none=>simp[hun]at hT
  |some D=>
   cases hin:P.info? T with
   |none=>cases D<;>simp[hun,hin]at hT
   |some inf=>cases D<;>simp[hun,hin]at hT<;>simp[sizeOf,typeInfo,hin,hT,go_sem]
 simp only[loadVar,ON,hag,Ox,hsz,Qa,hl,OR]
def nh{fn:Func}{Φ:Value->World->Prop}{t T b:Nat}{vs:List Value}(hr:fn.results= #[.cell t T])(hv:look L t=some (.pointer (some ⟨b,0,none⟩)))(hT:db P T vs.length=true)(hc:∀ j u,vs[j]? =some u->w.cell? ⟨b,j,none⟩=some u)
  (h:Φ (.agg vs.toArray) w):aG P n fn Φ L w:=λ a ha=>by
 have h1:=ha.slot t _ hv;refine⟨_,?_,h⟩;simp[results,hr,PC,h1,asAddr,ed hT hc]
def Ev.J9{x:Operand}{xt:TypeId}{a:Nat}(hx:aH L x=some (.int .u32 (a:Int)))(ha:a<4294967296):Ev P n L w ⟨d,.unOp .xor xt x,ty,pos,af,g⟩ (.int .u32 ((4294967295^^^a:Nat):Int)):=.of λ ρ hρ=>by
 have h:=yW (P:=P) (k:=.u32) J (a:=4294967295) (b:=a) (by simp only[IntKind.bits];omega) (by simp only[IntKind.bits];omega) w;have hm:IntKind.u32.max=((4294967295:Nat):Int):=by decide
 simp only[execOp,hρ hx,Op.unary,IntKind.signed,Pm,Py,hm,ON,h,Ox,OR]
end
section
variable {P:Program} {n:Nat} {fn:Func} {Φ:Value->World->Prop} {L:aA} {w:World}
def bY{t T b u s:Nat}{vs:List Value}{x y:Value}(hr:fn.results= #[.cell t T,.tmp u,.tmp s])(hv:look L t=some (.pointer (some ⟨b,0,none⟩)))(hx:look L u=some x)(hy:look L s=some y)(hT:db P T vs.length=true)(hc:∀ j u,vs[j]? =some u->w.cell? ⟨b,j,none⟩=some u)
  (h:Φ (.tuple #[.agg vs.toArray,x,y]) w):aG P n fn Φ L w:=λ a ha=>by
 have h1:=ha.slot t _ hv;have h2:=ha.slot u _ hx;have h3:=ha.slot s _ hy;refine⟨_,?_,h⟩;simp[results,hr,PC,h1,h2,h3,asAddr,ed hT hc]
end
section
variable {P:Program} {n:Nat} {L:aA} {w w0:World} {cs:List Chunk} {K:Value->World->Prop} {d:Option Nat} {ty:TypeId} {pos:String} {af:Array Edge} {g:Option (Nat×Bool)} {α:Type} {E:Enc α}
def OpE.fa{t e b m:Nat}{z:Value}{parts:List (Nat×Operand)}{vs:List (Nat×Value)}(E:Enc α)(l:List α)(hty:SlTy P t e 1 z b)(hp:cQ L parts=some vs)(h1:ng vs)(hz1:z.oneCell'=true)(ho:Kw.setArr vs (List.replicate m z)=some (E.all l))(hl:l.length=m)(hE:E.s=1)(hm0:m≠0)(hm:m<=16777216)(hs:Sat w0 cs w)
  (hk:∀ u w',Sat w0 (cs++[cL u e E l]) w'->Chg [] w w'->K u w'):OpE P n L w ⟨d,.buildSlice t m parts.toArray,ty,pos,af,g⟩ K:=by
 obtain⟨inf,i1,i2,i3,i4⟩:=hty.info;have he:∀ ρ:Operand->Value,(∀ {x u},aH L x=some u->ρ x=u)->∀ (parts:List (Nat×Operand)) (vs:List (Nat×Value)),cQ L parts=some vs->parts.map (λ(i,x)=>(i,ρ x))=vs:=by
  intro ρ hρ parts;induction parts with
  |nil=>intro vs h;simp[cQ]at h;simp[h]
  |cons p r ih=>
   intro vs h;obtain⟨i,x⟩:=p;simp only[cQ,Qc,P3]at h;obtain⟨v,hv,us,hus,rfl⟩:=h;simp[hρ hv,ih us hus]
 have hvc:z.cells= #[z]:=by cases z<;>first|rfl|cases hz1
 have hfill:=pB vs (List.replicate m z) (E.all l) h1 ho;have hall:(E.all l).length=m:=by rw[E.all_length,hE,hl,PL]
 have hzero:(Array.range m).map (λ q=>z.cells[q%z.cells.size]!)=(List.replicate m z).toArray:=by
  rw[hvc];apply RY;apply Rn
  ·simp
  ·intro i _ _;simp[Nat.mod_one]
 have hrun:(Instr.buildSlice t m vs.toArray).run P w= .ok (.slice (some ⟨w.heap.size,0,none⟩) m m) (w.alloc (.cells (E.all l).toArray e)):=by
  simp only[PL]at hfill;have h24:¬ 2^24<m:=by omega
  have r1:(zeroValue e).run P w= .ok z w:=by simp[zeroValue,typeInfo,i1,i2,go_sem]
  have r2:(sizeOf e).run P w= .ok 1 w:=by simp[sizeOf,typeInfo,i1,i3,go_sem]
  have r3:(newRow e (E.all l).toArray).run P w= .ok ⟨w.heap.size,0,none⟩ (w.alloc (.cells (E.all l).toArray e)):=by simp[newRow,go_sem]
  simp only[Instr.buildSlice,OH hty.und,r2,ON,Ox,PL,RL,h24,hm0,Py,r1,OR,hzero,hfill,r3]
 refine .val (λ ρ hρ=>?_) (hk (.slice (some ⟨w.heap.size,0,none⟩) m m) (w.alloc (.cells (E.all l).toArray e)) ?_ (.alloc _ _))
 ·simp only[execOp];rw[show(parts.toArray.map λ(i,x)=>(i,ρ x))=vs.toArray by rw[Qe,he ρ hρ parts vs hp]];simp only[ON,hrun,Ox,OR]
 ·have h:=hs.ou e E.s m m (E.all l) (by unfold maxLen;omega) (KP _) (by rw[hall,hE,PL]);rw[hE,PL,OA (by omega)]at h;unfold cL;rw[hl,hE];exact h
end
section
variable {P:Program} {n:Nat} {L:aA} {w w0:World} {cs:List Chunk} {K:Value->World->Prop} {d:Option Nat} {ty:TypeId} {pos:String} {af:Array Edge} {g:Option (Nat×Bool)}
end
section
variable {P:Program} {n:Nat} {fn:Func} {Φ:Value->World->Prop} {L:aA} {w:World}
end
def strOf(l:List Nat):ByteArray:=⟨(l.map λ n=>UInt8.ofNat n).toArray⟩
def aI(l:List Nat):(strOf l).size=l.length:=by simp[strOf,ByteArray.size]
def foldl_push(l:List Nat):∀ r:ByteArray,(l.map λ n=>((n:Nat):Int)).foldl (λ r n=>r.push (UInt8.ofNat n.toNat)) r=⟨r.data++(l.map λ n=>UInt8.ofNat n).toArray⟩:=by
 induction l with
 |nil=>intro r;simp
 |cons b l ih=>intro r;simp only[P5,Q5];rw[ih];simp[ByteArray.push]
def Bi{a b:List Nat}(ha:∀ x∈a,x<256)(hb:∀ x∈b,x<256):strOf a=strOf b↔a=b:=by
 refine⟨λ h=>?_,λ h=>by rw[h]⟩;have h1:a.map (λ n=>UInt8.ofNat n)=b.map (λ n=>UInt8.ofNat n):=by
  have:=If (λ s:ByteArray=>s.data.toList) h;simpa[strOf]using this
 have h2:=If (List.map UInt8.toNat) h1;rw[QU,QU]at h2;have e:∀ l:List Nat,(∀ x∈l,x<256)->l.map (UInt8.toNat∘λ n=>UInt8.ofNat n)=l:=λ l hl=>by
  conv=>rhs;rw[<-map_id l]
  refine Qq λ x hx=>?_;have:=hl x hx;simp[UInt8.toNat_ofNat,P6 this]
 rwa[e a ha,e b hb]at h2
def Bj(l:List Nat):(ae .u8).all l=(l.map λ n=>((n:Nat):Int)).map (Value.int .u8):=by
 induction l with
 |nil=>rfl
 |cons y r ih=>rw[Enc.all_cons,P5,P5];exact If (Value.int .u8 ((y:Nat):Int):: ·) ih
def tf{a b:ByteArray}:(a.toList==b.toList)=decide (a=b):=by
 have h:a.toList=b.toList↔a=b:=⟨λ h=>by
  rw[Qv,Qv]at h;obtain⟨⟨x⟩⟩:=a;obtain⟨⟨y⟩⟩:=b;simp at h;rw[h],λ h=>by rw[h]⟩
 by_cases hab:a=b
 ·subst hab;simp
 ·rw[KG hab];simp;exact λ h'=>hab (h.1 h')
section
variable {P:Program} {n:Nat} {L:aA} {w w0:World} {cs:List Chunk} {K:Value->World->Prop} {d:Option Nat} {ty:TypeId} {pos:String} {af:Array Edge} {g:Option (Nat×Bool)}
def Ev.cS{x:Operand}{s t e:TypeId}{v:Value}{l:List Nat}(hs:P.underlying s=some (.slice e))(ht:P.underlying t=some .string)(he:P.underlying e=some (.int .u8))(hx:aH L x=some v)(h:RdL w v (ae .u8) l):
  Ev P n L w ⟨d,.convert s t x,ty,pos,af,g⟩ (.string (strOf l)):=.of λ ρ hρ=>by
 obtain⟨a,cap,rfl,hn,hc⟩:=h;have hrun:(convert s t (.slice a l.length cap)).run P w= .ok (.string (strOf l)) w:=by
  rw[run_convert_bytes_string w s t e a l.length cap hs he ht];have hall:=Bj l;cases a with
  |none=>
   have hl:l=[]:=by
    cases l with
    |nil=>rfl
    |cons y r=>obtain⟨b,o,ha,_⟩:=hc 0 (.int .u8 ((y:Nat):Int)) (by rw[Enc.all_cons];rfl);cases ha
   subst hl;simp[Conv.bytesToString,OR];rfl
  |some a=>
   have hlen:((ae .u8).all l).length=l.length:=by rw[(ae .u8).all_length];exact PL _
   have hld:=Qn (P:=P) w a ((ae .u8).all l) λ q u hu=>by
    obtain⟨b,o,hb,hw⟩:=hc q u hu;cases hb;rw[Ph];exact hw
   rw[hlen,hall]at hld;rw[run_bytesToString w a l.length cap _ hld,foldl_push];simp[strOf]
 simp only[execOp,hρ hx];simp[hrun]
def Ev.cY{x y:Operand}{t T:TypeId}{a b:ByteArray}(hx:aH L x=some (.string a))(hy:aH L y=some (.string b)):Ev P n L w ⟨d,.binOp .eql t x y T,ty,pos,af,g⟩ (.bool (decide (a=b))):=
 .bin hx hy (by rfl) λ w=>by rw[binOp_string_eql,tf];rfl
def Ev.bO{x y:Operand}{t T:TypeId}{a b:ByteArray}(hx:aH L x=some (.string a))(hy:aH L y=some (.string b)):Ev P n L w ⟨d,.binOp .neq t x y T,ty,pos,af,g⟩ (.bool (decide (a≠b))):=
 .bin hx hy (by rfl) λ w=>by rw[binOp_string_neq,tf,<-decide_not];rfl
end
section
variable {P:Program} {n:Nat} {N R:aA->World->Prop} {X G:List (Nat×(aA->World->Prop))} {L:aA} {w:World}
end
section
variable {P:Program} {n:Nat} {L:aA} {w w0:World} {cs:List Chunk} {K:Value->World->Prop} {d:Option Nat} {ty:TypeId} {pos:String} {af:Array Edge} {g:Option (Nat×Bool)}
def Ev.yq{T:TypeId}{pl:List (Nat×Nat)}{zs out:List Value}{parts:List (Nat×Operand)}{vs:List (Nat×Value)}(hb:BuildTy P T pl zs)(hp:cQ L parts=some vs)(ho:Instr.fill (λ i=>pl.toArray[i]?) zs.toArray vs=some out.toArray):
  Ev P n L w ⟨d,.build T parts.toArray,ty,pos,af,g⟩ (.agg out.toArray):=.of λ ρ hρ=>by
 have he:∀ (parts:List (Nat×Operand)) (vs:List (Nat×Value)),cQ L parts=some vs->parts.map (λ(i,x)=>(i,ρ x))=vs:=by
  intro parts;induction parts with
  |nil=>intro vs h;simp[cQ]at h;simp[h]
  |cons p r ih=>
   intro vs h;obtain⟨i,x⟩:=p;simp only[cQ,Qc,P3]at h;obtain⟨v,hv,us,hus,rfl⟩:=h;simp[hρ hv,ih us hus]
 obtain⟨fs,hu,hpl⟩:=hb.und;have hz:=hb.zero;cases hi:P.info? T with
 |none=>simp[hi]at hz
 |some inf=>
  simp[hi]at hz;have hrun:(Instr.build T vs.toArray).run P w= .ok (.agg out.toArray) w:=by
   simp only[Instr.build,zeroValue,typeInfo,ON];simp[hi,hz,OH hu];have:=hpl w;simp at this;have hfill':Instr.fill (λ x=>pl[x]?) zs.toArray vs=some out.toArray:=by simpa using ho
   simp[this,Value.cells,hfill']
  simp only[execOp];rw[show(parts.toArray.map λ(i,x)=>(i,ρ x))=vs.toArray by rw[Qe,he parts vs hp]];simp only[ON,hrun,Ox,OR]
end
section
variable {w0 w:World} {cs:List Chunk}
def pC{α:Type}{l:List α}{j:Nat}{x y:α}(h:l[j]? =some x):(l.eraseIdx j++[y]).Perm (l.set j y):=by
 obtain⟨hj,rfl⟩:=sp.1 h;rw[eraseIdx_eq_take_drop_succ,PA,Ow hj,No];exact Ql _ RE
def Sat.wX{A ds es:List Chunk}(h:Sat w0 A w)(i:Nat)(hi:A[i]? =some (iU ds))(hp:ds.Perm es):Sat w0 (A.set i (iU es)) w:=by
 obtain⟨hil,hid⟩:=sp.1 hi;have e1:A=A.take i++iU ds::A.drop (i+1):=by rw[<-hid];simp
 rw[e1,Sat.fW]at h;rw[PA,Ow hil,Sat.fW];exact h.perm (Ql _ (List.Perm.append_right _ hp))
def Sat.pull{A ds:List Chunk}{d:Chunk}(h:Sat w0 A w)(i:Nat)(hi:A[i]? =some (iU (ds++[d]))):Sat w0 (A.set i (iU ds)++[d]) w:=by
 obtain⟨hil,hid⟩:=sp.1 hi;have e1:A=A.take i++iU (ds++[d])::A.drop (i+1):=by rw[<-hid];simp
 rw[e1,Sat.fW]at h;rw[PA,Ow hil,No,PE,Sat.fW];refine h.perm (Ql _ ?_);rw[No];exact Ql _ RE
variable {α:Type} {E:Enc α} {e:Nat}
def Sat.FH{A:List Chunk}{ps:List (SV×List α)}{p:SV×List α}{j:Nat}(h:Sat w0 A w)(i:Nat)(hi:A[i]? =some (cv e E ps))(hj:ps[j]? =some p):Sat w0 (A.set i (cv e E (ps.eraseIdx j))++[cL p.1.val e E p.2]) w:=by
 have hil:=(sp.1 hi).1;have hpm:(ps.map λ p=>cL p.1.val e E p.2).Perm ((ps.eraseIdx j).map (λ p=>cL p.1.val e E p.2)++[cL p.1.val e E p.2]):=by
  have h1:(ps.eraseIdx j++[p]).Perm ps:=by
   have:=pC (y:=p) hj;obtain⟨hj2,hj3⟩:=sp.1 hj;rw[<-hj3]at this⊢;rwa[St]at this
  have h2:=(h1.map λ p=>cL p.1.val e E p.2).symm;rw[Pw]at h2;exact h2
 have h1:=h.wX i hi hpm;have h2:=h1.pull i (by rw[P4 hil]);rw[R0]at h2;exact h2
def Sat.Ji{A:List Chunk}{ps:List (SV×List α)}{s:SV}{l:List α}{j:Nat}(h:Sat w0 (A++[cL s.val e E l]) w)(i:Nat)(hi:A[i]? =some (cv e E (ps.eraseIdx j)))(hj:j<ps.length):Sat w0 (A.set i (cv e E (ps.set j (s,l)))) w:=by
 have hil:=(sp.1 hi).1;have h1:=h.push i hi;have hpm:((ps.eraseIdx j).map (λ p=>cL p.1.val e E p.2)++[cL s.val e E l]).Perm ((ps.set j (s,l)).map λ p=>cL p.1.val e E p.2):=by
  have h2:=(pC (l:=ps) (j:=j) (y:=(s,l)) (py hj)).map λ p=>cL p.1.val e E p.2;rw[Pw]at h2;exact h2
 have h2:=h1.wX i (by rw[P4 hil]) hpm;rw[R0]at h2;exact h2
def Sat.Ao(h:Sat w0 cs w)(e:Nat)(E:Enc α):∀ k,Sat w0 (cs++[cv e E (List.replicate k (⟨none,0,0⟩,[]))]) w
 |0=>h.u7 e E
 |k+1=>by
  have h1:=(Sat.Ao h e E k).ao e E;have h2:=Sat.mS (A:=cs++[cv e E (List.replicate k (⟨none,0,0⟩,[]))]) (s:=⟨none,0,0⟩) (l:=[]) (ps:=List.replicate k (⟨none,0,0⟩,[])) h1 cs.length (by simp);rw[Q2 _ _ (KP _),PX]at h2;rw[replicate_succ'];exact h2
variable {P:Program} {n:Nat} {L:aA} {K:Value->World->Prop} {d:Option Nat} {ty:TypeId} {pos:String} {af:Array Edge} {g:Option (Nat×Bool)}
end
def Da{a b x y z:Bool}(ha:a=x)(hb:b=y)(h:(!(x==y))=z):(!(a==b))=z:=by rw[ha,hb];exact h
section
variable {P:Program} {n:Nat} {L:aA} {w:World} {d:Option Nat} {ty:TypeId} {pos:String} {af:Array Edge} {g:Option (Nat×Bool)}
def Db(t:TypeId)(a b:Bool)(h:P.underlying t=some .bool)(w:World):(binOp .neq t (.bool a) (.bool b)).run P w= .ok (.bool (!(a==b))) w:=by
 have:∀ d,(Op.equalIn (d+1) t (.bool a) (.bool b)).run P w= .ok (a==b) w:=λ d=>by simp[Op.equalIn,OH h]
 simp only[binOp];simp[Op.equal,Op.maxDepth,this 9999]
def Ev.MG{x y:Operand}{t T:TypeId}{a b:Bool}(hu:P.underlying t=some .bool)(hx:aH L x=some (.bool a))(hy:aH L y=some (.bool b)):Ev P n L w ⟨d,.binOp .neq t x y T,ty,pos,af,g⟩ (.bool (!(a==b))):=
 .bin hx hy (by rfl) λ w=>Db t a b hu w
end
section
variable {P:Program} {n:Nat} {fn:Func} {Φ:Value->World->Prop} {L:aA} {w:World}
def cr{t T b u:Nat}{vs:List Value}{x:Value}(hr:fn.results= #[.cell t T,.tmp u])(hv:look L t=some (.pointer (some ⟨b,0,none⟩)))(hx:look L u=some x)(hT:db P T vs.length=true)(hc:∀ j u,vs[j]? =some u->w.cell? ⟨b,j,none⟩=some u)
  (h:Φ (.tuple #[.agg vs.toArray,x]) w):aG P n fn Φ L w:=λ a ha=>by
 have h1:=ha.slot t _ hv;have h2:=ha.slot u _ hx;refine⟨_,?_,h⟩;simp[results,hr,PC,h1,h2,asAddr,ed hT hc]
end
section
variable {P:Program} {n:Nat} {L:aA} {w:World} {d:Option Nat} {ty:TypeId} {pos:String} {af:Array Edge} {g:Option (Nat×Bool)}
def Ni{s:ByteArray}{j:Nat}{b:UInt8}(h:s.data.toList[j]? =some b):s[j]? =some b:=by
 obtain⟨hj,rfl⟩:=sp.1 h;have hj':j<s.size:=by simpa using hj
 rw[getElem?_pos s j hj'];rfl
def Ev.hG{x i:Operand}{t:TypeId}{s:ByteArray}{j:Nat}{b:UInt8}(ht:P.underlying t=some .string)(hx:aH L x=some (.string s))(hi:aH L i=some (.int .i64 (j:Int)))(hb:s.data.toList[j]? =some b):
  Ev P n L w ⟨d,.index t x i,ty,pos,af,g⟩ (.int .u8 ((b.toNat:Nat):Int)):=.of λ ρ hρ=>by
 have hb':=Ni hb;have h0:(0:Int)<=(j:Int):=by omega
 simp only[execOp,hρ hx,hρ hi];simp[Instr.index,asIntOf,OH ht,hb',h0,go_sem]
end
section
variable {P:Program} {n:Nat} {ops:List Oper} {K:aA->World->Prop} {L:aA} {w:World} {S:World->Prop} {SS:List (World->Prop)} {p q:Plan}
end
end Go.Kw
namespace Go.Kw
open Go.Lib
def gb(l:List UInt8)(k:Nat):Nat:=(l.getD k 0).toNat
def dec(l:List UInt8):Nat×Nat:=decodeN l.length (gb l 0) (gb l 1) (gb l 2) (gb l 3)
def lS(s:ByteArray)(i:Nat):(s.get! i).toNat=gb s.data.toList i:=by
 unfold gb;show(s.data[i]!).toNat=_;rw[LW,Array.getElem?_toList];by_cases h:i<s.data.size
 ·rw[getElem!_pos s.data i h,Array.getElem?_eq_getElem h];rfl
 ·rw[getElem!_neg s.data i h,QV (by omega)];rfl
def lT(l:List UInt8)(i k:Nat):gb (l.drop i) k=gb l (i+k):=by
 unfold gb;simp[LW]
def xJ(s:ByteArray)(i:Nat):Utf8.decode s i=dec (s.data.toList.drop i):=by
 rw[decode_at];unfold dec;rw[lT,lT,lT,lT,lS,lS,lS,lS];have:s.size-i=(s.data.toList.drop i).length:=by rw[OJ,Qg];rfl
 rw[this];rfl
def uQ(n b0 b1 b2 b3:Nat):1<=(decodeN n b0 b1 b2 b3).2/\(decodeN n b0 b1 b2 b3).2<=4:=by
 unfold decodeN
 repeat' split
 all_goals exact⟨by simp,by simp⟩
def xK(n b0 b1 b2 b3:Nat)(hn:1<=n):(decodeN n b0 b1 b2 b3).2<=n:=by
 unfold decodeN
 repeat' split
 all_goals simp only[]at*
 all_goals omega
def ff(l:List UInt8):1<=(dec l).2:=(uQ ..).1
def JK{l:List UInt8}(h:l≠[]):(dec l).2<=l.length:=xK _ _ _ _ _ (Rf.2 h)
def tg(l:List UInt8):List (Nat×List UInt8):=
 if h:l=[]then[]else((dec l).1,l.take (dec l).2)::tg (l.drop (dec l).2)
 termination_by l.length
 decreasing_by
 have:=ff l;have:=Rf.2 h;simp only[OJ];omega
def Dc:tg []=[]:=by rw[tg];simp
def Bk{l:List UInt8}(h:l≠[]):tg l=((dec l).1,l.take (dec l).2)::tg (l.drop (dec l).2):=by rw[tg,dif_neg h]
def Nj(l:List UInt8):List UInt8:=(tg l).reverse.flatMap (·.2)
structure Un where
 r:Nat
 at_:Nat
 size:Nat
def dr(s:List UInt8)(i:Nat):List Un:=
 if h:i<s.length then⟨(dec (s.drop i)).1,i,(dec (s.drop i)).2⟩::dr s (i+(dec (s.drop i)).2)else[]
 termination_by s.length-i
 decreasing_by have:=ff (s.drop i);omega
def fY(s:List UInt8):List Un:=dr s 0
def iA{s:List UInt8}{i:Nat}(h:i<s.length):dr s i=⟨(dec (s.drop i)).1,i,(dec (s.drop i)).2⟩::dr s (i+(dec (s.drop i)).2):=by rw[dr,dif_pos h]
def gi{s:List UInt8}{i:Nat}(h:s.length<=i):dr s i=[]:=by rw[dr,dif_neg (by omega)]
def Dd{s:List UInt8}{i:Nat}(h:i<s.length):i+(dec (s.drop i)).2<=s.length:=by
 have:=JK (l:=s.drop i) (λ he=>by have:=If List.length he;simp at this;omega);rw[OJ]at this;omega
def lU(s:List UInt8):∀ (k i:Nat),s.length-i<=k->(dr s i).map (λ u=>(u.r,(s.drop u.at_).take u.size))=tg (s.drop i)
 |k,i,hk=>by
  by_cases h:i<s.length
  ·have hne:s.drop i≠[]:=λ he=>by have:=If List.length he;simp at this;omega
   have:=ff (s.drop i);cases k with
   |zero=>omega
   |succ k=>
    rw[iA h,Bk hne,P5,lU s k _ (by omega),drop_drop]
  ·rw[gi (by omega),drop_eq_nil_of_le (by omega),Dc];rfl
def LR(s:List UInt8):(fY s).map (λ u=>(u.r,(s.drop u.at_).take u.size))=tg s:=by
 have:=lU s s.length 0 (by omega);rwa[PK]at this
def jf(s:List UInt8):∀ (k i:Nat),s.length-i<=k->(dr s i).length<=s.length-i
 |k,i,hk=>by
  by_cases h:i<s.length
  ·have:=ff (s.drop i);cases k with
   |zero=>omega
   |succ k=>
    rw[iA h,KW];have:=jf s k (i+(dec (s.drop i)).2) (by omega);omega
  ·rw[gi (by omega)];simp
def pD(s:List UInt8):(fY s).length<=s.length:=by
 have:=jf s s.length 0 (by omega);exact Pb this (Nat.sub_le ..)
def Un.ok(u:Un):Bool:=u.r !=65533||u.size==3
def gj(s:ByteArray):Bool:=(fY s.data.toList).all Un.ok
def Nk(s:ByteArray):ByteArray:=⟨(Nj s.data.toList).toArray⟩
