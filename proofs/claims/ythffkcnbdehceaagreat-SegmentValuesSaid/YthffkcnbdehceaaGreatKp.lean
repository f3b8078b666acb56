/-
 KP:more operations for the program logic of Kw:building structs,boxes,masks,signed shifts. Our own text;it names no program.
-/
import Derived.Test.YthffkcnbdehceaaGreatKw
set_option linter.all false
open Go.Proofs.YthffkcnbdehceaaGreat
open List
namespace Go.Kw
open Go.RowKit
def kM(pl:List (Nat×Nat)):List (Nat×Value)->List Value->Option (List Value)
 |[],zs=>some zs
 |(i,v)::r,zs=>match pl[i]? with
  |some (off,1)=>cond (Nat.ble (off+1) zs.length) (kM pl r (zs.set off v)) none
  |_=>none
def oX:List (Nat×Value)->Prop
 |[]=>True
 |(_,v)::r=>v.oneCell'=true/\oX r
def cW(L:aA):List (Nat×Operand)->Option (List (Nat×Value))
 |[]=>some []
 |(i,x)::r=>(aJ L x).bind λ v=>(cW L r).map ((i,v):: ·)
structure BuildTy(P:Program)(T:TypeId)(pl:List (Nat×Nat))(zs:List Value):Prop where
 zero:(P.info? T).map (·.zero)=some (some (.agg zs.toArray))
 und:∃ fs,P.underlying T=some (.struct fs)/\∀ w,(fs.mapM λ f=>do pure (f.offset,<-sizeOf f.type):Sem _).run P w= .ok pl.toArray w
def rQ(pl:List (Nat×Nat)):∀ (parts:List (Nat×Value)) (zs out:List Value),oX parts->kM pl parts zs=some out->Instr.fill (pl.toArray[·]?) zs.toArray parts=some out.toArray
 |[],zs,out,_,h=>by simp only[kM,Th]at h;subst h;rfl
 |(i,v)::r,zs,out,h1,h=>by
  have hvc:v.cells= #[v]:=by have:=h1.1;cases v<;>first|rfl|cases this
  unfold kM at h;cases hp:pl[i]? with
  |none=>simp[hp]at h
  |some q=>
   obtain⟨off,s⟩:=q;rw[hp]at h
   match s,h with
   |1,h=>
    simp only at h;cases hb:Nat.ble (off+1) zs.length with
    |false=>simp[hb]at h
    |true=>
     rw[hb]at h;have hle:=Sh hb;have ih:=rQ pl r (zs.set off v) out h1.2 h;simp only[Instr.fill,getElem?_toArray,hp,hvc];simp only[U6,LW,Rp,RX,ne_eq,not_true,V1,Bool.false_or,Vw];rw[M2 (by simp;omega)];simpa using ih
section
variable {P:Program} {n:Nat} {L:aA} {w w0:World} {cs:List Chunk} {K:Value->World->Prop} {d:Option Nat} {ty:TypeId} {pos:String} {af:Array Edge} {g:Option (Nat×Bool)}
def Ev.build{T:TypeId}{pl:List (Nat×Nat)}{zs out:List Value}{parts:List (Nat×Operand)}{vs:List (Nat×Value)}(hb:BuildTy P T pl zs)(hp:cW L parts=some vs)(h1:oX vs)(ho:kM pl vs zs=some out):
  Ev P n L w ⟨d,.build T parts.toArray,ty,pos,af,g⟩ (.agg out.toArray):=.of λ ρ hρ=>by
 have he:∀ (parts:List (Nat×Operand)) (vs:List (Nat×Value)),cW L parts=some vs->parts.map (λ(i,x)=>(i,ρ x))=vs:=by
  intro parts;induction parts with
  |nil=>intro vs h;simp[cW]at h;simp[h]
  |cons p r ih=>
   intro vs h;obtain⟨i,x⟩:=p;simp only[cW,TC,SD]at h;obtain⟨v,hv,us,hus,rfl⟩:=h;simp[hρ hv,ih us hus]
 obtain⟨fs,hu,hpl⟩:=hb.und;have hz:=hb.zero;have hfill:=rQ pl vs zs out h1 ho;cases hi:P.info? T with
 |none=>simp[hi]at hz
 |some inf=>
  simp[hi]at hz;have hrun:(Instr.build T vs.toArray).run P w= .ok (.agg out.toArray) w:=by
   simp only[Instr.build,zeroValue,typeInfo,RA];simp[hi,hz,Rt hu];have:=hpl w;simp at this;have hfill':Instr.fill (λ x=>pl[x]?) zs.toArray vs=some out.toArray:=by simpa using hfill
   simp[this,Value.cells,hfill']
  simp only[execOp];rw[show(parts.toArray.map λ(i,x)=>(i,ρ x))=vs.toArray by rw[TM,he parts vs hp]];simp only[RA,hrun,Rs,RJ]
def yG(a m:Nat):a&&&(2^m-1)=a%2^m:=Nat.and_two_pow_sub_one_eq_mod a m
def GX{P:Program}{a b:Nat}(ha:a<2^63)(hb:b<2^63)(w:World):(Op.intBits .and .i64 a b).run P w= .ok (.int .i64 ((a&&&b:Nat):Int)) w:=by
 have:=rU (Nat.and_lt_two_pow a hb);have ha':a<2^IntKind.i64.bits:=by simp only[IntKind.bits];omega
 have hb':b<2^IntKind.i64.bits:=by simp only[IntKind.bits];omega
 simp only[Op.intBits,U9,BitVec.toNat_and,Uj,RR ha',RR hb',this];rfl
def Ev.J7{x y:Operand}{xt yt:TypeId}{a b:Nat}(m:Nat)(hx:aJ L x=some (.int .i64 (a:Int)))(hy:aJ L y=some (.int .i64 (b:Int)))(hm:b=2^m-1)(ha:a<2^63)(hb:b<2^63):
  Ev P n L w ⟨d,.binOp .and xt x y yt,ty,pos,af,g⟩ (.int .i64 ((a%2^m:Nat):Int)):=
 .bin hx hy (Sq ..) λ w=>by rw[binOp_and,GX ha hb,hm,yG]
def Ev.IY{x y:Operand}{xt yt:TypeId}{k:IntKind}{a b:Nat}(m:Nat)(hx:aJ L x=some (.int k (a:Int)))(hy:aJ L y=some (.int k (b:Int)))(hk:k.signed=false)(hm:b=2^m-1)(ha:a<2^k.bits)(hb:b<2^k.bits):
  Ev P n L w ⟨d,.binOp .and xt x y yt,ty,pos,af,g⟩ (.int k ((a%2^m:Nat):Int)):=by
 have:=Ev.R2 (P:=P) (n:=n) (w:=w) (d:=d) (xt:=xt) (yt:=yt) (ty:=ty) (pos:=pos) (af:=af) (g:=g) hx hy hk ha hb;rwa[hm,yG]at this
def Ev.ma{x y:Operand}{xt yt:TypeId}{a b:Nat}(hx:aJ L x=some (.int .i64 (a:Int)))(hy:aJ L y=some (.int .i64 ((b:Int)-1)))(hba:b<=a+1)(h:a+1<=9223372036854775807):
  Ev P n L w ⟨d,.binOp .sub xt x y yt,ty,pos,af,g⟩ (.int .i64 ((a+1-b:Nat):Int)):=by
 have:=Ev.sub (P:=P) (n:=n) (w:=w) (d:=d) (xt:=xt) (yt:=yt) (ty:=ty) (pos:=pos) (af:=af) (g:=g) hx hy ⟨by omega,by omega⟩;rwa[show(a:Int)-((b:Int)-1)=((a+1-b:Nat):Int) by omega]at this
def OpE.ue{t e b:Nat}{z:Value}{α:Type}(E:Enc α)(hty:SlTy P t e E.s z b)(hs:Sat w0 cs w)
  (hk:∀ u w',Sat w0 (cs++[cL u e E []]) w'->Chg [] w w'->K u w'):OpE P n L w ⟨d,.buildSlice t 0 #[],ty,pos,af,g⟩ K:=by
 obtain⟨inf,i1,i2,i3,i4⟩:=hty.info;refine .val (λ ρ hρ=>?_) (hk _ _ (by have:=hs.we e E.s 0 0 [] (by unfold maxLen;omega) (KD _) (by simp);rw[take_nil]at this;exact this) (.alloc _ _));have hrun:(Instr.buildSlice t 0 #[]).run P w= .ok (.slice (some ⟨w.heap.size,0,none⟩) 0 0) (w.alloc (.cells #[] e)):=by
  simp[Instr.buildSlice,Rt hty.und,sizeOf,typeInfo,i1,i3,Instr.fill,newRow];simp[show Array.range 0=(#[]:Array Nat)from Y]
 simp only[execOp,TM,U3,RA,hrun,Rs,RJ]
structure ArrTy(P:Program)(T m e s:Nat):Prop where
 und:P.underlying T=some (.array m e)
 size:(P.info? e).map (·.size)=some s
def Ev.dx{x i:Operand}{T m e s b o j:Nat}{k:IntKind}(hT:ArrTy P T m e s)(hx:aJ L x=some (.pointer (some ⟨b,o,none⟩)))(hi:aJ L i=some (.int k (j:Int)))(hj:j<m):
  Ev P n L w ⟨d,.indexAddr T x i,ty,pos,af,g⟩ (.pointer (some ⟨b,o+j*s,none⟩)):=.of λ ρ hρ=>by
 have hk:(0:Int)<=(j:Int)/\(j:Int)<(m:Int):=by omega
 have hz:=hT.size;cases hin:P.info? e with
 |none=>simp[hin]at hz
 |some inf=>
  simp[hin]at hz;simp only[execOp,hρ hx,hρ hi,Instr.indexAt,asIntOf,RA,Rt hT.und,Rs];simp[Instr.sureAddr,sizeOf,typeInfo,hin,hz,hk,hj,Sz,go_sem]
def Sat.qQ{α:Type}{E:Enc α}(h:Sat w0 cs w)(i:Nat){b T j:Nat}{l:List α}{a:α}{u:Value}(hi:cs[i]? =some (aq b T (E.all l)))(ha:l[j]? =some a)(hs:0<E.s)(hu:(E.enc a)[0]? =some u):w.cell? ⟨b,0+j*E.s,none⟩=some u:=by
 rw[RX];have:=E.all_get ha hs;rw[T7]at this;exact h.cell hi (by rw[this];exact hu)
theorem OpE.setArr{α:Type}{E:Enc α}{x y:Operand}{T U b j:Nat}{u:Value}{l:List α}{a:α}(i:Nat)(hT:(P.info? T).map (·.size)=some 1)(hs:Sat w0 cs w)(hi:cs[i]? =some (aq b U (E.all l)))(hx:aJ L x=some (.pointer (some ⟨b,0+j*E.s,none⟩)))
  (hy:aJ L y=some u) (he:E.enc a=[u]) (hj:j<l.length) (hk:∀ w',Sat w0 (cs.set i (aq b U (E.all (l.set j a)))) w'->Chg [b] w w'->K undef w'):OpE P n L w ⟨d,.store T x y,ty,pos,af,g⟩ K:=by
 have h1:E.s=1:=by have:=E.len a;rw[he]at this;simpa using this.symm
 have hget:(E.all l)[j*E.s]? =some _:=py (by rw[E.all_length];exact TF hj (by omega));rw[RX]at hx;refine OpE.aS hT hs hi hx hy (E.one a u (by rw[he];simp)) hget λ w' hS hC=>hk w' ?_ hC;rw[qD he hj]at hS;exact hS
end
@[reducible] def Enc.ag{α:Type}(E:Enc α)(a:α):Value:=.agg (E.enc a).toArray
def rR(vs:List Value):∀ (k:Nat) (pre rest:List Value),pre.length=k->vs.length<=rest.length->
  (vs.zipIdx k).foldl (λ(cs:Array Value) (c,j)=>cs.setIfInBounds j c) (pre++rest).toArray=(pre++vs++rest.drop vs.length).toArray:=by
 induction vs with
 |nil=>intro k pre rest _ _;simp
 |cons v r ih=>
  intro k pre rest hk hl;cases rest with
  |nil=>simp at hl
  |cons q rest=>
   simp only[zipIdx_cons,TQ];have e:((pre++q::rest).toArray.setIfInBounds k v)=((pre++[v])++rest).toArray:=by
    subst hk;simp
   rw[e,ih (k+1) (pre++[v]) rest (by simp[hk]) (by simpa using hl)];simp
section
variable {P:Program} {n:Nat} {L:aA} {w w0:World} {cs:List Chunk} {K:Value->World->Prop} {d:Option Nat} {ty:TypeId} {pos:String} {af:Array Edge} {g:Option (Nat×Bool)} {α:Type} {E:Enc α}
def Qp(v:Value)(m:Nat):Prop:=∃ a cap,v= .slice a m cap/\(0<m->∃ b o,a=some ⟨b,o,none⟩)
def RdL.iR{v:Value}{l:List α}(h:RdL w v E l)(hs:0<E.s):Qp v l.length:=by
 obtain⟨a,cap,rfl,_,hc⟩:=h;refine⟨a,cap,Y,λ hp=>?_⟩;have hpos:0<(E.all l).length:=by rw[E.all_length];exact Nat.mul_pos hp hs
 obtain⟨b,o,ha,_⟩:=hc 0 _ (py hpos);exact⟨b,o,ha⟩
def Ev.lj{x i:Operand}{t e s b:Nat}{z v:Value}{m j:Nat}{k:IntKind}(hty:SlTy P t e s z b)(hx:aJ L x=some v)(hi:aJ L i=some (.int k (j:Int)))(h:Qp v m)(hj:j<m):
  Ev P n L w ⟨d,.indexAddr t x i,ty,pos,af,g⟩ (bN v (j*s)):=.of λ ρ hρ=>by
 obtain⟨a,cap,rfl,ha⟩:=h;obtain⟨inf,h1,h2,h3,h4⟩:=hty.info;obtain⟨bb,o,rfl⟩:=ha (by omega);have hk:(0:Int)<=(j:Int)/\(j:Int)<(m:Int):=by omega
 simp only[execOp,hρ hx,hρ hi,Instr.indexAt,asIntOf];simp[Rt hty.und,sizeOf,typeInfo,h1,h3,hk,bN,go_sem,hj]
def Ev.MQ{x:Operand}{T:TypeId}{v:Value}{j:Nat}{l:List α}{a:α}(hT:dS P T E.s=true)(hx:aJ L x=some (bN v (j*E.s)))(h:RdL w v E l)(ha:l[j]? =some a)(hs:0<E.s):
  Ev P n L w ⟨d,.load T x,ty,pos,af,g⟩ (E.ag a):=.of λ ρ hρ=>by
 obtain⟨ad,cap,rfl,_,hc⟩:=h;have hcell:∀ q u,(E.enc a)[q]? =some u->(E.all l)[j*E.s+q]? =some u:=λ q u hu=>by
  have hq:q<E.s:=by have:=(IN.1 hu).1;rw[E.len]at this;exact this
  rw[E.all_get ha hq];exact hu
 obtain⟨u0,hu0⟩:∃ u,(E.enc a)[0]? =some u:=⟨_,py (by rw[E.len];exact hs)⟩;obtain⟨bb,o,rfl,_⟩:=hc _ u0 (hcell 0 u0 hu0);have hx':ρ x= .pointer (some ⟨bb,o+j*E.s,none⟩):=by rw[hρ hx];simp[bN,Sz]
 have hl:=TO (P:=P) w ⟨bb,o+j*E.s,none⟩ (E.enc a) (λ q u hu=>by
  obtain⟨b2,o2,hb,hw⟩:=hc _ u (hcell q u hu);cases hb;rw[Sz,Ti];exact hw)
 rw[E.len]at hl;have hag:(isAgg T).run P w= .ok true w:=by
  unfold dS at hT;cases hun:P.underlying T with
  |none=>simp[hun]at hT
  |some D=>cases D<;>simp[hun]at hT<;>simp[isAgg,Rt hun,go_sem]
 have hsz:(sizeOf T).run P w= .ok E.s w:=by
  unfold dS at hT;cases hin:P.info? T with
  |none=>simp[hin]at hT
  |some inf=>simp[hin]at hT;simp[sizeOf,typeInfo,hin,hT.2,go_sem]
 have hld:(Instr.loadAt T (ρ x)).run P w= .ok (E.ag a) w:=by
  simp only[Instr.loadAt,loadVar,hx',Instr.sureAddr,RA,RJ,Rs,hag,hsz,hl,TJ]
 simp only[execOp,RA,hld,Rs,RJ]
def GY{l:List α}{j:Nat}{a:α}(hj:j<l.length):(E.all l).take (j*E.s)++E.enc a++(E.all l).drop (j*E.s+E.s)=E.all (l.set j a):=by
 have e2:l.set j a=l.take j++a::l.drop (j+1):=by rw[T6];simp[hj]
 have e3:j*E.s+E.s=(j+1)*E.s:=by rw[Sp];omega
 rw[e2,E.all_append,E.all_cons,E.all_take,e3,E.all_drop,KV]
def OpE.BV{x y:Operand}{T e j:Nat}{v:Value}{l:List α}{a:α}(i:Nat)(hT:dS P T E.s=true)(hs:Sat w0 cs w)(hi:cs[i]? =some (cL v e E l))(hx:aJ L x=some (bN v (j*E.s)))
  (hy:aJ L y=some (E.ag a)) (hj:j<l.length) (hp:0<E.s) (hk:∀ w',Sat w0 (cs.set i (cL v e E (l.set j a))) w'->Chg (bT v) w w'->K undef w'):OpE P n L w ⟨d,.store T x y,ty,pos,af,g⟩ K:=by
 have hown:=hs.get hi;have hal:=E.all_length l;obtain⟨hl,⟨rfl,hn0⟩|⟨g,cap,cur,rfl,hg0,hh,hnc,hcm,hcs,ht⟩⟩:=id hown
 ·omega
 have hjs:j*E.s+E.s<=l.length*E.s:=by
  have:(j+1)*E.s<=l.length*E.s:=SY _ hj;rw[Sp]at this;omega
 have hcl:l.length*E.s<=cur.size:=by rw[hcs];exact SY _ hnc
 have hst:=UW P g (j*E.s) e (E.enc a) 0 cur w hh (by rw[E.len];omega) (E.one a);rw[T7,E.len]at hst;cases hin:P.info? T with
 |none=>unfold dS at hT;simp[hin]at hT
 |some inf=>
  have hsz:inf.size=E.s:=by unfold dS at hT;simp[hin]at hT;exact hT.2
  refine .unit (w':=w.setRow g (cur.toList.take (j*E.s)++E.enc a++cur.toList.drop (j*E.s+E.s)).toArray) (λ ρ hρ=>?_) (hk _ (hs.set i hi ⟨Y,Y,Y,by simp,λ k _ hk=>Uf w g k _ (λ e=>hk (by simp[cL,pV,bT,e]))⟩ ?_ (λ _ hk=>.inl hk)) ⟨Y,Y,Y,by simp,λ k _ hk=>Uf w g k _ (λ e=>hk (by simp[bT,e]))⟩)
  ·have hx':ρ x= .pointer (some ⟨g,j*E.s,none⟩):=by rw[hρ hx];simp[bN,Sz]
   have hrun:(Instr.storeAt T (.pointer (some ⟨g,j*E.s,none⟩)) (E.ag a)).run P w= .ok () (w.setRow g (cur.toList.take (j*E.s)++E.enc a++cur.toList.drop (j*E.s+E.s)).toArray):=by
    simp[Instr.storeAt,Instr.sureAddr,storeVar,sizeOf,typeInfo,hin,hsz,Value.cells,E.len,hst]
   simp only[execOp,hx',hρ hy,RA,hrun,Rs,RJ]
  ·refine⟨E.all_length _,.inr ⟨g,cap,_,?_,hg0,Vk w g cur _ e _ hh,by rw[Ro];omega,hcm,?_,?_⟩⟩
   ·rw[Ro]
   ·simp only[U6,sp,KW,Ry,T4,E.len];rw[hcs];rw[hcs]at hcl;omega
   ·rw[Ro,<-GY hj,<-ht];simp only[toList_toArray];apply TL;intro q;simp only[SG,getElem?_append,sp,KW,T4,E.len,SZ,Ry];rw[Sr (by omega:j*E.s<=cur.size),Sr (by omega:l.length*E.s<=cur.size),Sr (by omega:j*E.s<=l.length*E.s)];by_cases h1:q<j*E.s
    ·simp[h1,show q<j*E.s+E.s by omega,show q<l.length*E.s by omega]
    ·by_cases h2:q<j*E.s+E.s
     ·simp[h1,h2,show q<l.length*E.s by omega]
     ·simp only[h1,h2,SX];by_cases h3:q<l.length*E.s
      ·simp[h3,show j*E.s+E.s+(q-(j*E.s+E.s))=q by omega]
      ·simp[h3,show¬ j*E.s+E.s+(q-(j*E.s+E.s))<l.length*E.s by omega]
def OpE.cn{x:Operand}{t e b:Nat}{z:Value}(E:Enc α)(a:α)(hty:SlTy P t e E.s z b)(hp:0<E.s)(hs24:E.s<=16777216)(hs:Sat w0 cs w)(hx:aJ L x=some (E.ag a))
  (hk:∀ u w',Sat w0 (cs++[cL u e E [a]]) w'->Chg [] w w'->K u w'):OpE P n L w ⟨d,.buildSlice t 1 #[(0,x)],ty,pos,af,g⟩ K:=by
 obtain⟨inf,i1,i2,i3,i4⟩:=hty.info;have hz:=hty.zs;refine .val (λ ρ hρ=>?_) (hk (.slice (some ⟨w.heap.size,0,none⟩) 1 1) (w.alloc (.cells (E.enc a).toArray e)) ?_ (.alloc _ _))
 ·have hfill:∀ zc:Array Value,Instr.fill (λ i=>some (i*inf.size,inf.size)) ((Array.range (1*inf.size)).map (zc[· %zc.size]!)) [(0,E.ag a)]=some (E.enc a).toArray:=λ zc=>by
   have hf:=rR (E.enc a) 0 [] ((List.range (1*inf.size)).map (zc[· %zc.size]!)) Y (by simp[E.len,i3]);simp only[Tj]at hf;have hsz:(E.enc a).length=inf.size:=by rw[E.len,i3]
   have e1:(Array.range (1*inf.size)).map (zc[· %zc.size]!)=((List.range (1*inf.size)).map (zc[· %zc.size]!)).toArray:=by
    apply Array.ext';simp
   have e2:(List.drop (E.enc a).length ((List.range (1*inf.size)).map (zc[· %zc.size]!)))=[]:=SF (by simp[hsz]);rw[e2,SO]at hf;rw[e1];have hagc:(E.ag a).cells=(E.enc a).toArray:=rfl;simp only[Instr.fill,hagc,UF,RX];rw[M2 (by simp[hsz])];have hz2:(E.enc a).toArray.zipIdx.toList=(E.enc a).zipIdx:=by simp
   rw[<-Array.foldl_toList,hz2];exact If some hf
  have hrun:(Instr.buildSlice t 1 #[(0,E.ag a)]).run P w= .ok (.slice (some ⟨w.heap.size,0,none⟩) 1 1) (w.alloc (.cells (E.enc a).toArray e)):=by
   have hf:=hfill z.cells;rw[i3,Ts]at hf;have h24:¬ 2^24<E.s:=by omega
   have h0:¬ E.s=0:=by omega
   have r1:(zeroValue e).run P w= .ok z w:=by simp[zeroValue,typeInfo,i1,i2,go_sem]
   have r2:(sizeOf e).run P w= .ok E.s w:=by simp[sizeOf,typeInfo,i1,i3,go_sem]
   have r3:(newRow e (E.enc a).toArray).run P w= .ok ⟨w.heap.size,0,none⟩ (w.alloc (.cells (E.enc a).toArray e)):=by simp[newRow,go_sem]
   simp only[Instr.buildSlice,Rt hty.und,r2,RA,Rs,Ts,Vw,h24,h0,SX,r1,RJ,hf,r3]
  simp only[execOp,TM,Sg,U3,hρ hx,RA,hrun,Rs,RJ]
 ·have h:=hs.we e E.s 1 1 (E.enc a) (by unfold maxLen;omega) (KD _) (by rw[E.len];omega);unfold cL;rw[E.all_one];rw[Ru (by rw[E.len];omega)]at h;exact h
def OpE.cC{x y:Operand}{T i b:Nat}{U:TypeId}{cells vs:List Value}(hT:dS P T vs.length=true)(hs:Sat w0 cs w)(hi:cs[i]? =some (aq b U cells))(hl:vs.length=cells.length)(hx:aJ L x=some (.pointer (some ⟨b,0,none⟩)))
  (hy:aJ L y=some (.agg vs.toArray)) (h1:∀ v∈vs,v.oneCell'=true) (hk:∀ w',Sat w0 (cs.set i (aq b U vs)) w'->Chg [b] w w'->K undef w'):OpE P n L w ⟨d,.store T x y,ty,pos,af,g⟩ K:=by
 have hh:w.heap[b]? =some (.cells cells.toArray U (0,0)):=hs.get hi;have hst:=UW P b 0 U vs 0 cells.toArray w hh (by simp;omega) h1;have hcur:(cells.toArray.toList.take (0+0)++vs++cells.toArray.toList.drop (0+0+vs.length))=vs:=by simp[hl]
 rw[hcur]at hst;cases hin:P.info? T with
 |none=>unfold dS at hT;simp[hin]at hT
 |some inf=>
  have hsz:inf.size=vs.length:=by unfold dS at hT;simp[hin]at hT;exact hT.2
  refine .unit (w':=w.setRow b vs.toArray) (λ ρ hρ=>?_) (hk _ (hs.set i hi ⟨Y,Y,Y,by simp,λ k _ hk=>Uf w b k _ (λ e=>hk (by simp[aq,e]))⟩ (Vk w b _ _ U _ hh) (λ _ hk=>.inl hk)) ⟨Y,Y,Y,by simp,λ k _ hk=>Uf w b k _ (λ e=>hk (by simp[e]))⟩);have hrun:(Instr.storeAt T (.pointer (some ⟨b,0,none⟩)) (.agg vs.toArray)).run P w= .ok () (w.setRow b vs.toArray):=by
   simp[Instr.storeAt,Instr.sureAddr,storeVar,sizeOf,typeInfo,hin,hsz,Value.cells,hst]
  simp only[execOp,hρ hx,hρ hy,RA,hrun,Rs,RJ]
def EL(t e:TypeId)(a:Option Addr)(m c:Nat)(h:P.underlying t=some (.slice e))(w:World):(binOp .eql t (.slice a m c) (.slice none 0 0)).run P w= .ok (.bool a.isNone) w:=by
 have:∀ d,(Op.equalIn (d+1) t (.slice a m c) (.slice none 0 0)).run P w= .ok a.isNone w:=λ d=>by cases a<;>simp[Op.equalIn,Rt h]
 simp only[binOp];simp[Op.equal,Op.maxDepth,this 9999]
section
variable {x y:Operand} {t e T:TypeId} {v:Value} {m:Nat}
def Ev.OL(hu:P.underlying t=some (.slice e))(hx:aJ L x=some v)(hy:aJ L y=some (.slice none 0 0))(h:Qp v m)(hm:0<m):Ev P n L w ⟨d,.binOp .eql t x y T,ty,pos,af,g⟩ (.bool false):=by
 obtain⟨a,c,rfl,ha⟩:=h;obtain⟨b,o,rfl⟩:=ha hm;exact .bin hx hy (by rfl) λ w=>EL t e _ m c hu w
end
def cells_one{v:Value}(h:v.oneCell'=true):v.cells.toList=[v]:=by cases v<;>first|rfl|cases h
def Ev.pO{x:Operand}{f:FuncId}{v:Value}(hx:aJ L x=some v):Ev P n L w ⟨d,.makeFunc (.func f) #[] #[x],ty,pos,af,g⟩ (.func (.func f) #[] #[v]):=.of λ ρ hρ=>by
 simp[execOp,Instr.makeFunc,hρ hx,go_sem]
def Ev.Jl{x y:Operand}{z:Int}{p:Prop}[Decidable p]{k:IntKind}{o:TypeId}{T:TypeId}(hx:aJ L x=some (.int k z))(hy:aJ L y=some (.int k 0))(hz:z<0↔p):
  Ev P n L w ⟨d,.binOp .lss o x y T,ty,pos,af,g⟩ (.bool (decide p)):=by
 have:decide p=decide (z<0):=by simp[hz]
 rw[this];exact Ev.lss hx hy
end
structure SV where
 a:Option Addr
 n:Nat
 c:Nat
@[reducible] def SV.val(s:SV):Value:=.slice s.a s.n s.c
def RdL.sv{α:Type}{w:World}{v:Value}{E:Enc α}{l:List α}(h:RdL w v E l):∃ s:SV,v=s.val/\s.n=l.length:=by
 obtain⟨a,cap,rfl,_⟩:=h;exact⟨⟨a,l.length,cap⟩,Y,Y⟩
def kq(cs:List Chunk):Chunk where
 foot:=cs.flatMap Chunk.foot
 holds w:=(∀ c∈cs,c.holds w)/\cs.Pairwise λ(c d:Chunk)=>∀ k∈c.foot,k∉d.foot
 stable w w' h hc:=⟨λ c hm=>c.stable w w' (λ k hk=>h k (Tq.2 ⟨c,hm,hk⟩)) (hc.1 c hm),hc.2⟩
def Sat.gK{w0 w:World}{P ds Q:List Chunk}:Sat w0 (P++kq ds::Q) w↔Sat w0 (P++(ds++Q)) w:=by
 constructor
 ·intro h;have hA:=h.holds (kq ds) (by simp);have hp:=Tf.1 h.apart;have hq:=Sb.1 hp.2.1;refine⟨h.old,λ c hc=>?_,?_⟩
  ·simp only[RE]at hc;rcases hc with hc|hc|hc
   ·exact h.holds c (by simp[hc])
   ·exact⟨hA.1.1 c hc,λ k hk=>hA.2 k (Tq.2 ⟨c,hc,hk⟩)⟩
   ·exact h.holds c (by simp[hc])
  ·rw[Tf,Tf];refine⟨hp.1,⟨hA.1.2,hq.2,λ c hc d hd k hk=>hq.1 d hd k (Tq.2 ⟨c,hc,hk⟩)⟩,λ c hc d hd k hk hk2=>?_⟩;rcases RE.1 hd with hd|hd
   ·exact hp.2.2 c hc (kq ds) (by simp) k hk (Tq.2 ⟨d,hd,hk2⟩)
   ·exact hp.2.2 c hc d (by simp[hd]) k hk hk2
 ·intro h;have hp:=Tf.1 h.apart;have hq:=Tf.1 hp.2.1;refine⟨h.old,λ c hc=>?_,?_⟩
  ·simp only[RE,Rx]at hc;rcases hc with hc|rfl|hc
   ·exact h.holds c (by simp[hc])
   ·refine⟨⟨λ c hc=>(h.holds c (by simp[hc])).1,hq.1⟩,λ k hk=>?_⟩;obtain⟨c,hc,hk⟩:=Tq.1 hk;exact(h.holds c (by simp[hc])).2 k hk
   ·exact h.holds c (by simp[hc])
  ·rw[Tf,Sb];refine⟨hp.1,⟨λ d hd k hk hk2=>?_,hq.2.1⟩,λ c hc d hd k hk hk2=>?_⟩
   ·obtain⟨c,hc,hk⟩:=Tq.1 hk;exact hq.2.2 c hc d hd k hk hk2
   ·rcases Rx.1 hd with rfl|hd
    ·obtain⟨d,hd,hk2⟩:=Tq.1 hk2;exact hp.2.2 c hc d (by simp[hd]) k hk hk2
    ·exact hp.2.2 c hc d (by simp[hd]) k hk hk2
def Sat.push{w0 w:World}{A ds:List Chunk}{d:Chunk}(h:Sat w0 (A++[d]) w)(i:Nat)(hi:A[i]? =some (kq ds)):Sat w0 (A.set i (kq (ds++[d]))) w:=by
 obtain⟨hil,hid⟩:=IN.1 hi;have e1:A=A.take i++kq ds::A.drop (i+1):=by rw[<-hid];simp
 rw[e1,KV,TE,Sat.gK]at h;rw[T6,No hil,Sat.gK];refine h.perm (Tw _ ?_);rw[KV];exact Tw _ Ui
section
variable {α:Type} {E:Enc α} {e:Nat} {w0 w:World} {cs:List Chunk}
def aW(e:Nat)(E:Enc α)(ps:List (SV×List α)):Chunk:=kq (ps.map λ p=>cL p.1.val e E p.2)
def Sat.qT(h:Sat w0 cs w)(e:Nat)(E:Enc α):Sat w0 (cs++[aW e E []]) w:=by
 have:Sat w0 (cs++kq []::[]) w:=Sat.gK.2 (by simpa using h);exact this
def Sat.lk{A:List Chunk}{s:SV}{l:List α}{ps:List (SV×List α)}(h:Sat w0 (A++[cL s.val e E l]) w)(i:Nat)(hi:A[i]? =some (aW e E ps)):Sat w0 (A.set i (aW e E (ps++[(s,l)]))) w:=by
 have:=h.push i hi;rw[aW,Si];exact this
theorem Sat.bj(h:Sat w0 cs w)(i:Nat){ps:List (SV×List α)}(hi:cs[i]? =some (aW e E ps)){k:Nat}{p:SV×List α}(hk:ps[k]? =some p):RdL w p.1.val E p.2:=by
 have:=(h.get hi).1 (cL p.1.val e E p.2) (Su (Rv hk));exact Rd.pM this
def bu(α:Type):Enc (SV×List α):=⟨1,λ p=>[p.1.val],λ _=>Y,λ p v h=>by simp at h;rw[h];rfl⟩
end
section
variable {P:Program} {n:Nat} {L:aA} {w:World} {K:Value->World->Prop} {d:Option Nat} {ty:TypeId} {pos:String} {af:Array Edge} {g:Option (Nat×Bool)}
def Ev.gP{x:Operand}{f:FuncId}{v:Value}(hx:aJ L x=some v):Ev P n L w ⟨d,.makeFunc (.func f) #[x] #[],ty,pos,af,g⟩ (.func (.func f) #[v] #[]):=.of λ ρ hρ=>by
 simp[execOp,Instr.makeFunc,hρ hx,go_sem]
def OpE.vZ{t:Nat}{f:FuncId}{fst cap:Array Value}{xs:List Operand}{ats:Array TypeId}{vs:List Value}
  (hf:Enters P f) (ht:look L t=some (.func (.func f) fst cap)) (hx:oY L xs=some vs) (h:CallsV P f (fst.toList++vs++cap.toList) w K):OpE P n L w ⟨d,.call ⟨.value (.tmp t),xs.toArray,ats⟩,ty,pos,af,g⟩ K:=λ a ha next Q hk=>by
 have he:=ha.Ak hx;have hv:a.eval (.tmp t)= .func (.func f) fst cap:=ha.eval ht;have hrun:(execOp a.eval ⟨d,.call ⟨.value (.tmp t),xs.toArray,ats⟩,ty,pos,af,g⟩).run P w= .ok (.enter f (fst.toList++vs++cap.toList).toArray) w:=by
  have hm:xs.toArray.map a.eval=vs.toArray:=by simp[he]
  have:=hf (fst.toList++vs++cap.toList).toArray w;have hc:fst++vs.toArray++cap=(fst.toList++vs++cap.toList).toArray:=by simp
  simp only[execOp,resolve,hm,hv,Deferred.ofValue,bind,Sem.bind,pure,invoke,hc];simpa only[Sem.run]using this
 simp only[Oper.wp,hrun,Oper.upon];refine Tr h λ e w' ⟨v,he',hv⟩=>?_;subst he';exact hk v w' hv
end
