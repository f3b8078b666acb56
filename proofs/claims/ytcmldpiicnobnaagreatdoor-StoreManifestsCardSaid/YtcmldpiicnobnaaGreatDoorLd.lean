/-
 LD:how a store among the arguments reads;what the laid variables hold. Our own text.
-/
import Derived.Test.YtcmldpiicnobnaaGreatDoorLw
import Derived.Test.YtcmldpiicnobnaaGreatDoorKp
import Derived.Test.YtcmldpiicnobnaaGreatDoorKy
import Derived.Test.YtcmldpiicnobnaaGreatDoorShelf
import Derived.Stop.LaidErr
import Derived.Lay
set_option linter.all false
set_option maxRecDepth 100000
open Go.Proofs.Tryz
namespace Go.Proofs.YtcmldpiicnobnaaGreatDoor
open Go.ChangeShapes Go.WideShapes Go.ChangeAt Go.RowKit Go.Kw
section
variable {H:Type} {enc:TypeId×Value->H} {W:World}
theorem Ob:prog.cellsOf 9=1:=by kernel_rfl
end
theorem JS : prog.globalNamed "strconv.ErrRange" = some 3 := by kernel_rfl
theorem GA : prog.globalNamed "strconv.ErrSyntax" = some 2 := by kernel_rfl
theorem Ns : prog.globalNamed "internal/strconv.uint64pow10" = some 1 := by kernel_rfl
theorem JT:(prog.globals[3]?).map (·.type)=some 62:=by kernel_rfl
theorem GB:(prog.globals[2]?).map (·.type)=some 62:=by kernel_rfl
theorem Nt:(prog.globals[1]?).map (·.type)=some 231:=by kernel_rfl
theorem Oc:prog.cellsOf 278=1:=by kernel_rfl
theorem Om:prog.cellsOf 231=20:=by kernel_rfl
theorem Iz(u : TypeId)(hu : prog.typeName? 3 u = some "*errors.errorString") : u = 276 := typeName_ptr_named (nm := "errors.errorString") (by kernel_rfl) (by kernel_rfl) (by decide) u hu
theorem Nu:prog.cellsOf 190=1:=by kernel_rfl
theorem JU:(Rows.laid_internal_strconv_uint64pow10:DataW Unit)=Lib.tabData .u64 Lib.pow10Tab:=by kernel_rfl
theorem M3{W:World}(hL:laidMetH prog Rows.storeManifestsRow.laid W)(hsh:W.ShapedOpen prog):GV prog 0 W:=by
 rw[MakeChecks.laidMetH_plain _ _ _ (by kernel_rfl)]at hL;have h2:=laidMet.tail (laidMet.tail hL);have h4:=laidMet.tail (laidMet.tail h2);have h5:=laidMet.tail h4;obtain⟨a0,s0,hv0,_⟩:=laid_sentinel h4 JS JT underlying62 Iz underlying276 underlying278 J J underlying9 Oc Ob;obtain⟨a1,s1,hv1,_⟩:=laid_sentinel h5 GA GB underlying62 Iz underlying276 underlying278 J J underlying9 Oc Ob
 have ht : laidMet prog (("internal/strconv.uint64pow10", Lib.tabData .u64 Lib.pow10Tab) :: [("unicode/utf8.acceptRanges", Rows.laid_unicode_utf8_acceptRanges), ("strconv.ErrRange", Rows.laid_strconv_ErrRange), ("strconv.ErrSyntax", Rows.laid_strconv_ErrSyntax), ("unicode/utf8.first", Rows.laid_unicode_utf8_first)]) W := by rw[← JU]; exact h2
 exact⟨Tryz.laysM219.s1_3 W hsh,Lib.tabIs_of_head Ns Nt underlying231 underlying190 Nu Om ht,⟨_,_,hv1⟩,⟨_,_,hv0⟩⟩
