/-
 M15v:the reading of a block,step by step. No program in sight.
-/
import Derived.Test.YthffkcnbdehceaaGreatM15u
open Go.Proofs.YthffkcnbdehceaaGreat
set_option linter.unusedVariables false
set_option linter.unusedSimpArgs false
set_option linter.unusedSectionVars false
namespace Go.Kw
def uX (b:List Nat):Nat×Bool×List Nat:=aW true b 128
def uY (b:List Nat):Nat×Bool×List Nat:=aW (uX b).2.1 (uX b).2.2 31
def uZ (b:List Nat):Nat×Bool×List Nat:=aW (uY b).2.1 (uY b).2.2 128
def uS (b:List Nat):Nat:=((uX b).1*(uY b).1+7)/8
def uE (b:List Nat):Option (List Nat):=HS (uY b).1 (uX b).1 (uZ b).1 (uZ b).2.1 ((uZ b).2.2.drop (uS b)) 0 (jD ((uZ b).2.2.take (uS b)) (uX b).1 (uY b).1)
theorem wg (b:List Nat):td b=if (uZ b).2.1=false\/(uZ b).2.2.length<uS b then none else match uE b with|none=>none|some vs=>if bD vs=b then some vs else none:=rfl
theorem GU {b:List Nat} (h:(uZ b).2.1=false\/(uZ b).2.2.length<uS b):td b=none:=by rw [wg,PI h]
theorem GV {b:List Nat} (h:uE b=none):td b=none:=by rw [wg,h];split<;>rfl
theorem yM {b vs:List Nat} (h1:¬ ((uZ b).2.1=false\/(uZ b).2.2.length<uS b)) (h:uE b=some vs):td b=if bD vs=b then some vs else none:=by rw [wg,M2 h1,h]
theorem KK (b:List Nat):(uX b).1<=128:=kX _ _ _
theorem KL (b:List Nat):(uY b).1<=31:=kX _ _ _
theorem NC (b:List Nat):(uZ b).1<=128:=kX _ _ _
theorem M0 (b:List Nat):(uX b).1*(uY b).1<=128*31:=Tm (KK b) (KL b)
theorem GW (b:List Nat):∀ x∈(uZ b).2.2,x∈b:=λ x hx=>dK _ _ _ x (dK _ _ _ x (dK _ _ _ x hx))
theorem GX (b:List Nat):∀ x∈(uX b).2.2,x∈b:=λ x hx=>dK _ _ _ x hx
theorem M3 (b:List Nat):∀ x∈(uY b).2.2,x∈b:=λ x hx=>GX b x (dK _ _ _ x hx)
theorem GY (b:List Nat):(uX b).2.2.length<=b.length:=gG _ _ _
theorem GZ (b:List Nat):(uY b).2.2.length<=b.length:=Q7 (gG _ _ _) (GY b)
theorem M4 (b:List Nat):(uZ b).2.2.length<=b.length:=Q7 (gG _ _ _) (GZ b)
def mE (l:List Nat) (n w k:Nat):List Nat:=(List.range k).map (λ i=>sL l (w*i) w)++List.replicate (n-k) 0
theorem DR (l:List Nat) (n w:Nat):mE l n w 0=List.replicate n 0:=by simp [mE]
theorem pH {l:List Nat} {n w k:Nat} (h:k<=n):(mE l n w k).length=n:=by simp [mE];omega
theorem H0 (l:List Nat) (n w:Nat):mE l n w n=jD l n w:=by simp [mE,jD]
theorem H2 {l:List Nat} {n w k:Nat} (h:k<n):(mE l n w k).set k (sL l (w*k) w)=mE l n w (k+1):=by
 unfold mE
 rw [List.set_append_right _ _ (by simp),show n-k=(n-(k+1))+1 by omega,List.replicate_succ,List.range_succ]
 simp
theorem H3 (l:List Nat) (n w:Nat) (hw:w<=31):∀ x∈jD l n w,x<=2147483647:=λ x hx=>by
 obtain ⟨i,_,rfl⟩:=List.mem_map.1 hx
 have h1:=rF l (w*i) w
 have h2:2^w<=2^31:=Qg (by decide) hw
 omega
theorem wh (l:List Nat) (n w:Nat):(jD l n w).length=n:=by simp [jD]
theorem JI {a b:Nat} (ha:a<=2147483647) (hb:b<=2147483647):a|||b<=2147483647:=by
 have:=SC (n:=31) (x:=a) (y:=b) (by omega) (by omega);omega
theorem JJ {h w:Nat} (hh:h<=2147483647/2^w):h*2^w<=2147483647:=Q7 (R0 _ hh) (Nat.div_mul_le_self _ _)
def ND (l:List Nat) (s:List Nat×List (List Nat)×Nat) (x:Nat):List Nat×List (List Nat)×Nat:=
 (if (s.2.1.getD (aE l x) []).length=0 then s.1.set (aE l x) (mA l x) else s.1,s.2.1.set (aE l x) (s.2.1.getD (aE l x) []++[x]),aE l x)
def OY (l ord:List Nat):List Nat×List (List Nat)×Nat:=ord.foldl (ND l) (List.replicate 16 0,List.replicate 16 [],0)
def OZ (l:List Nat):List Nat×List (List Nat)×Nat:=OY l (cx l)
def P0 (F:List Nat) (S:List (List Nat)) (v n k:Nat):Bool:=
 decide (0<(S.getD k []).length)&&decide (v<=(F.getD k 0+(S.getD k []).length-1)/2^(k-n))&&decide (F.getD k 0/2^(k-n)<=v)
def P1 (F:List Nat) (S:List (List Nat)) (lo v n:Nat):Bool:=(List.range' n (lo+1-n)).any (P0 F S v n)
def JK (F:List Nat) (S:List (List Nat)) (lo:Nat) (l:List Nat) (N:Nat):Nat->Nat->Nat->Nat->Nat×Nat×Nat
 |0,_,_,pos=>(0,9,pos)
 |f+1,n,v,pos=>
  if N<pos+1 then (0,10,pos)
  else if P1 F S lo (2*v+rb l pos) n=false then (0,9,pos+1)
  else if F.getD n 0<=2*v+rb l pos/\2*v+rb l pos-F.getD n 0<(S.getD n []).length then ((S.getD n []).getD (2*v+rb l pos-F.getD n 0) 0,0,pos+1)
  else JK F S lo l N f (n+1) (2*v+rb l pos) (pos+1)
def NF (F:List Nat) (S:List (List Nat)) (lo:Nat) (l:List Nat) (N:Nat):Nat->Nat->List Nat->Option (List Nat×Nat)
 |0,pos,acc=>some (acc,pos)
 |c+1,pos,acc=>if (JK F S lo l N 16 1 0 pos).2.1≠0 then none else NF F S lo l N c (JK F S lo l N 16 1 0 pos).2.2 (acc++[(JK F S lo l N 16 1 0 pos).1])
def NG (l b:List Nat) (bits count:Nat):Option (List Nat):=
 match NF (OZ l).1 (OZ l).2.1 (OZ l).2.2 (b.take ((bits+7)/8)) bits count 0 [] with
 |none=>none
 |some p=>if p.2=bits then some p.1 else none
end Go.Kw
