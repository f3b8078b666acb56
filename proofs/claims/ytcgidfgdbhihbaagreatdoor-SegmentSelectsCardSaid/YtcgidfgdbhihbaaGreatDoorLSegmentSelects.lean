/-What is proved:for every input,SegmentSelects returns true and leaves its arguments as they were:what Select of an opened segment gives is what condition.Select gives on the corpus. No condition beyond the card's own:the listed package variables start as the program's text lays them. -/
import Derived.Test.YtcgidfgdbhihbaaGreatDoorCards
import Derived.Test.YtcgidfgdbhihbaaGreatDoorTie
import Derived.Test.YtcgidfgdbhihbaaGreatDoorLw
import Derived.Test.YtcgidfgdbhihbaaGreatDoorKp
import Derived.Test.YtcgidfgdbhihbaaGreatDoorJSegmentSelects
import Derived.Test.YtcgidfgdbhihbaaGreatDoorF41e
import Derived.Stop.LaidErr
import Derived.Lay
import Derived.SevenTiedAt
import Derived.ChangeMaps5
set_option linter.all false
set_option maxRecDepth 100000
open Go.Proofs.Tryz
namespace Go.Proofs.YtcgidfgdbhihbaaGreatDoor
open Go.ChangeShapes Go.WideShapes Go.ChangeAt Go.RowKit Go.Kw
theorem lG(os:Os)(started:os.Started)(H:Type)(enc:TypeId×Value->H):
  ReturnsInHanded {} Tryz.checked os 3 .any (λ w args=>(Rows.segmentSelectsSpec.pre enc prog Tryz.f3 Rows.segmentSelectsRow.domain false w args/\laidMetH prog Rows.segmentSelectsRow.laid w)/\sizedMet enc prog Tryz.f3 (OpenSpec.ofChange Rows.segmentSelectsSpec) false w args) (Rows.segmentSelectsSpec.post enc prog Tryz.f3 false true false false):=by
 refine pA (C:=Tryz.checked) (X:=λ w _=>laidMetH prog Rows.segmentSelectsRow.laid w) (λ _ _ _ hh h=>h.of_heap hh) JM started F func3
  (ChangeSpec.witness_shaped (enc:=enc) (C:=Tryz.checked) (os:=os) (X:=λ w _=>laidMetH prog Rows.segmentSelectsRow.laid w) false (World.laidAll prog os Rows.segmentSelectsRow.laid) #[.slice none 0 0,.slice none 0 0] 8 (World.laidAll_os _ _ _)
   (World.shaped_of_ZipB F F) F F F
   (by rw[MakeChecks.laidMetH_plain _ _ _ F];exact laidMet_laidAll _ F F)) ?_
 intro W base args ds gs before hval0 hW hL hsh;have hval:∀ (j:Nat) t v,Tryz.f3.params[j]? =some t->args[j]? =some v->Value.okWide prog W .any base t v:=hval0;have hW':=hW;obtain⟨p,q,hA0,hV,rfl,hfz,hnd⟩:=hW;have hA:DataW.TrodAll enc prog W 0 (λ _=>true) true Tryz.f3.params.toList args.toList ds p:=hA0;rw[params3]at hA hval;obtain⟨v0,v1,d0,d1,p0,p1,rfl,rfl,rfl,h0,h1⟩:=trodAll_two hA;obtain⟨rfl,rfl⟩:=trodVars_none hV;have hlt:∀ x∈p0++p1,x.block<W.heap.size:=λ x hx=>by simpa using hW'.lt x a2L
 obtain⟨z0,r0⟩:=Et (hval 0 22 v0 Y Y) h0;obtain⟨z1,r1⟩:=Et (hval 1 22 v1 Y Y) h1;simp only[List.append_nil]at hW';refine YS (CQ v0 v1 z0 z1 W r0 r1) ?_;rintro _ _ ⟨r,rfl,rfl,hS⟩;have hbelow:=hS.old;exact⟨_,Y,_,_,_,[],_,[],hW',trodAll_mk1 (shut_bool underlying4 true),trodAll_mk2 (Below.trod xh F (XR F) h0 hbelow (λ x hx=>hlt x (by simp[hx]))) (Below.trod xh F (XR F) h1 hbelow (λ x hx=>hlt x (by simp[hx]))),Y,hbelow.frame _,λ h=>by cases h⟩
theorem ot:Rows.SegmentSelectsSaid:=
 OpenClaim.holds_of_wide 3 Tryz.f3 Y Y Y Y Y Y Y ⟨Y,Y,Y,Y,Y⟩ Y Y Y Y Y F func3 lE
  (XR F) (by unfold Func.isWrapper;first|(rw[Xp a1O];kernel_rfl)|(rw[Xn a1O];exact⟨Y,Y⟩))
  (λ os started H enc _=>lG os started H enc)
theorem He{P:Program}(h:P.funcs.any Func.goes=false)(f:FuncId):P.goes f=false:=by
 have h2:∀ g:FuncId,(P.funcs[g]?).any Func.goes=false:=λ g=>by
  cases hg:P.funcs[g]? with
  |none=>rfl
  |some fn=>
   rw[Array.any_eq_false]at h;obtain⟨hi,he⟩:=Z5.1 hg;have:=h g hi;rw[he]at this;simpa using this
 unfold Program.goes;rw[h,a06,Bool.or_false];simp[h2]
theorem Od:prog.funcs.any Func.goes=false:=F
theorem AF{P:Program}(h:P.funcs.any Func.goes=false)(s:String):P.goesAt .entering s=false:=by
 unfold Program.goesAt Program.goesFrom;cases P.funcNamed s with
 |none=>rfl
 |some f=>show(P.goes f||false)=false;rw[He h];rfl
theorem Oe:false=Tryz.pinned.checked.prog.looks []:=F
theorem segmentSelects_holds:Rows.SegmentSelectsCardSaid:=
 Claim7.holds_tied_plain_at .later [] [.data, .pinned] true (true, "d48be092b0ee8fb0695907f620e16baef1219ef61fec28cbbd8d5d9f10f2a237") false ot (fun _ h => by cases h) F (fun _ h => by cases h) segmentSelects_row_tie Y ⟨Y, Y⟩ F Y
  (λ f fn hf hfn=>by
   obtain rfl : f = 3 := Y8 ((show prog.funcNamed "corpora/corporalaw41.SegmentSelects" = some 3 by kernel_rfl).symm.trans hf) |>.symm
   obtain rfl:fn=Tryz.f3:=(Y8 (func3.symm.trans hfn)).symm;exact⟨Oe,λ j t ht=>by
    rw[params3]at ht;have hm:t∈[22,22]:=by simpa using Array.mem_of_getElem? ht
    have hall:([22,22].all λ u=> !prog.wantsStandIn u)=true:=F
    exact(show prog.wantsStandIn t=false by simpa using List.all_eq_true.1 hall t hm)⟩)
  (AF (P:=Tryz.pinned.checked.prog) Od _).symm
#print axioms segmentSelects_holds
