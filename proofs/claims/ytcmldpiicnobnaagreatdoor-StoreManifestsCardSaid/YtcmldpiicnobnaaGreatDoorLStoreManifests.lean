/-What is proved:for every input,StoreManifests returns true and leaves its arguments as they were:for the store of any history,Manifest gives the text of the reference,ParseManifest this store again,and the error where a byte of the text is changed. No condition beyond the card's own:the listed package variables start as the program's text lays them. -/
import Derived.Test.YtcmldpiicnobnaaGreatDoorCards
import Derived.Test.YtcmldpiicnobnaaGreatDoorTie
import Derived.Test.YtcmldpiicnobnaaGreatDoorLd
import Derived.Test.YtcmldpiicnobnaaGreatDoorJStoreManifests
import Derived.Test.YtcmldpiicnobnaaGreatDoorF42k
import Derived.SevenTiedAt
import Derived.ChangeMaps5
set_option linter.all false
set_option maxRecDepth 100000
open Go.Proofs.Tryz
namespace Go.Proofs.YtcmldpiicnobnaaGreatDoor
open Go.ChangeShapes Go.WideShapes Go.ChangeAt Go.RowKit Go.Kw
theorem iW(os:Os)(started:os.Started)(H:Type)(enc:TypeId×Value->H):
  ReturnsInHanded {} Tryz.checked os 3 .any (λ w args=>(Rows.storeManifestsSpec.pre enc prog Tryz.f3 Rows.storeManifestsRow.domain false w args/\laidMetH prog Rows.storeManifestsRow.laid w)/\sizedMet enc prog Tryz.f3 (OpenSpec.ofChange Rows.storeManifestsSpec) false w args) (Rows.storeManifestsSpec.post enc prog Tryz.f3 false true false false):=by
 refine lR (C:=Tryz.checked) (X:=λ w _=>laidMetH prog Rows.storeManifestsRow.laid w) (λ _ _ _ hh h=>h.of_heap hh) Dt started (by kernel_rfl) func3
  (ChangeSpec.witness_shaped (enc:=enc) (C:=Tryz.checked) (os:=os) (X:=λ w _=>laidMetH prog Rows.storeManifestsRow.laid w) false (World.laidAll prog os Rows.storeManifestsRow.laid) #[.slice none 0 0,.int .i64 0,.int .u8 0] 8 (World.laidAll_os _ _ _)
   (World.shaped_of_ZipB (by kernel_rfl) (by kernel_rfl)) (by kernel_rfl) (by kernel_rfl) (by kernel_rfl)
   (by rw[MakeChecks.laidMetH_plain _ _ _ (by kernel_rfl)];exact laidMet_laidAll _ (by kernel_rfl) (by kernel_rfl))) ?_
 intro W base args ds gs before hval0 hW hL hsh;have hval:∀ (j:Nat) t v,Tryz.f3.params[j]? =some t->args[j]? =some v->Value.okWide prog W .any base t v:=hval0;have hW':=hW;obtain⟨p,q,hA0,hV,rfl,hfz,hnd⟩:=hW;have hA:DataW.TrodAll enc prog W 0 (λ _=>true) true Tryz.f3.params.toList args.toList ds p:=hA0;rw[params3]at hA hval;obtain⟨v0,v1,v2,d0,d1,d2,p0,p1,p2,rfl,rfl,rfl,h0,h1,h2⟩:=trodAll_three hA;obtain⟨rfl,rfl⟩:=trodVars_none hV;have hlt:∀ x∈p0++p1++p2,x.block<W.heap.size:=λ x hx=>by simpa using hW'.lt x (by simpa using hx)
 obtain⟨z0,r0⟩:=GC (hval 0 22 v0 J J) h0;obtain⟨a1,rfl,_,_,wa1⟩:=open_int underlying3 (hval 1 3 v1 J J) h1;obtain⟨z2,rfl,_,_,wz2⟩:=open_int underlying5 (hval 2 5 v2 J J) h2;obtain⟨a2,rfl,wa2⟩:=Gb wz2;simp only[List.append_nil]at hW';refine Qh (lD v0 z0 a1 a2 W r0 wa2 (M3 hL hsh)) λ e W' he=>?_;obtain⟨r,rfl,rfl,hS⟩:=he;have hbelow:=hS.old;exact⟨_,J,_,_,_,[],_,[],hW',trodAll_mk1 (shut_bool underlying4 true),trodAll_mk3 (Below.trod np (by kernel_rfl) (Pl (by kernel_rfl)) h0 hbelow (λ x hx=>hlt x (by simp[hx]))) (Below.trod np (by kernel_rfl) (Pl (by kernel_rfl)) h1 hbelow (λ x hx=>hlt x (by simp[hx]))) (Below.trod np (by kernel_rfl) (Pl (by kernel_rfl)) h2 hbelow (λ x hx=>hlt x (by simp[hx]))),J,hbelow.frame _,λ h=>by cases h⟩
theorem kY:Rows.StoreManifestsSaid:=
 OpenClaim.holds_of_wide 3 Tryz.f3 J J J J J J J ⟨J,J,J,J,J⟩ J J J J J (by kernel_rfl) func3 iT
  (Pl (by kernel_rfl)) (by unfold Func.isWrapper;first|(rw[Ow (by decide+kernel)];kernel_rfl)|(rw[OB (by decide+kernel)];exact⟨J,J⟩))
  (λ os started H enc _=>iW os started H enc)
theorem storeManifests_holds:Rows.StoreManifestsCardSaid:=
 Claim7.holds_tied_plain_at .later [] [.data, .data, .data, .data, .sentinel, .sentinel, .pinned] true (true, "4ab130085b62dccb6d5481a406116fbc058fa08a85b82b82fd56491bf438ef28") true kY (fun _ h => by cases h) (by kernel_rfl) (fun _ h => by cases h) storeManifests_row_tie J ⟨J, J⟩ (by kernel_rfl) J
  (λ f fn hf hfn=>by
   obtain rfl : f = 3 := OG ((show prog.funcNamed "corpora/corporalaw42.StoreManifests" = some 3 by kernel_rfl).symm.trans hf) |>.symm
   obtain rfl:fn=Tryz.f3:=(OG (func3.symm.trans hfn)).symm;exact⟨by kernel_rfl,λ j t ht=>by
    rw[params3]at ht;have hm:t∈[22,3,5]:=by simpa using Array.mem_of_getElem? ht
    have hall:([22,3,5].all λ u=> !prog.wantsStandIn u)=true:=by kernel_rfl
    exact(show prog.wantsStandIn t=false by simpa using List.all_eq_true.1 hall t hm)⟩)
  (by kernel_rfl)
#print axioms storeManifests_holds
