/-
 DERIVED:THE SHELF's CONTRACTS AT THIS DUMP,IN PLAIN WORDS (tools/lay-plain.mjs out of 'TryzShelf.lean',which tools/lay-shelf.mjs wrote):THE SAME DECLARATIONS UNDER THE SAME NAMES:'import','namespace','open','def','theorem' AND NOTHING ELSE:no command of the shelf's:FOR A HAND-IN. Each laying:the table of numbers ('.._ren') and one theorem,a field a fact of the dump's own or the kernel's comparison;each contract:ONE APPLICATION.
-/
import Derived.Test.YthffkcnbdehceaaGreatAl
import Derived.Shelf.Small.Bits
import Derived.Shelf.Small.Strs
import Derived.Shelf.Strconv.Itoa0
import Derived.Shelf.Sort.Plain
import Derived.Ground.Names2Prog
import Derived.Shelf.Slices.Clone
import Derived.Shelf.Slices.In.SortNone
import Derived.Ground.SlsfProg
import Derived.Shelf.SlSortCmp.Insertion
import Derived.Shelf.SlSortCmp.SiftDown1
import Derived.Shelf.SlSortCmp.HeapSort1
import Derived.Shelf.SlSortCmp.Insertion1
import Derived.Shelf.SlSortCmp.Median1
import Derived.Shelf.SlSortCmp.Pivot1
import Derived.Shelf.SlSortCmp.ReverseRange1
import Derived.Shelf.SlSortCmp.PartialInsertion1
import Derived.Shelf.SlSortCmp.PartitionEqual1
import Derived.Shelf.SlSortCmp.Partition1
import Derived.Shelf.SlSortCmp.Pdq1
import Derived.Shelf.SlSortCmp.Whole1
import Derived.Shelf.SlSortCmp.NoneTotal
import Derived.Shelf.Bytes.SlEqualAll
import Derived.Shelf.Bytes.Small
import Derived.Test.YthffkcnbdehceaaGreatProg
set_option linter.all false
open Go.Proofs.YthffkcnbdehceaaGreat
open Go.Proofs.Tryz
namespace Go.Proofs
open Go.Shelf
def Tryz.lays213_ren:Go.Shelf.Ren:=⟨λ|213=>225|265=>258|n=>n,λ|9=>9|3=>3|n=>n,λ|n=>n⟩
def Tryz.lays106_ren:Go.Shelf.Ren:=⟨λ|106=>186|213=>225|265=>258|n=>n,λ|9=>9|3=>3|n=>n,λ|n=>n⟩
def Tryz.lays106:Go.Proofs.Lays.n106 prog Tryz.lays106_ren:={
 mixed:=by kernel_rfl
 f106:=func186.trans (If some (by kernel_rfl))
 f213:=func225.trans (If some (by kernel_rfl))
 f265:=func258.trans (If some (by kernel_rfl))
 t3:=underlying3
 a3:=Tryz.isAgg3
 z3:=Tryz.sizeOf3
 v3:=Tryz.zeroValue3
 t9:=underlying9
 a9:=Tryz.isAgg9
 z9:=Tryz.sizeOf9
 v9:=Tryz.zeroValue9}
open Go.RowKit in
def Tryz.strings_Compare(a b:ByteArray)(w:World):
  Calls prog 186 #[.string a,.string b] w λ e w'=>e= .returned (.int .i64 (Lib.compareBytes a.data.toList b.data.toList))/\w'=w:=Any.strings_Compare Tryz.lays106 a b w
def Tryz.lays129_ren:Go.Shelf.Ren:=⟨λ|129=>168|n=>n,λ|53=>132|3=>3|4=>4|46=>151|5=>5|9=>9|n=>n,λ|n=>n⟩
def Tryz.lays129:Go.Proofs.Lays.n129 prog Tryz.lays129_ren:={
 mixed:=by kernel_rfl
 f129:=func168.trans (If some (by kernel_rfl))
 t3:=underlying3
 a3:=Tryz.isAgg3
 z3:=Tryz.sizeOf3
 v3:=Tryz.zeroValue3
 t4:=underlying4
 a4:=Tryz.isAgg4
 z4:=Tryz.sizeOf4
 v4:=Tryz.zeroValue4
 t5:=underlying5
 a5:=Tryz.isAgg5
 z5:=Tryz.sizeOf5
 v5:=Tryz.zeroValue5
 t9:=underlying9
 a9:=Tryz.isAgg9
 z9:=Tryz.sizeOf9
 v9:=Tryz.zeroValue9
 t46:=underlying151
 a46:=Tryz.isAgg151
 z46:=Tryz.sizeOf151
 v46:=Tryz.zeroValue151
 t53:=underlying132
 a53:=Tryz.isAgg132
 z53:=Tryz.sizeOf132
 v53:=Tryz.zeroValue132}
def Tryz.bits_Len64(x:Int)(w:World)(h0:0<=x)(h1:x<=18446744073709551615):
  Calls prog 168 #[.int .u64 x] w λ e w'=>e= .returned (.int .i64 (Lib.bitLen x.toNat))/\w'=w:=Any.bits_Len64 Tryz.lays129 x w h0 h1
def Tryz.lays190_ren:Go.Shelf.Ren:=⟨λ|190=>56|125=>107|258=>106|128=>167|129=>168|302=>158|303=>159|304=>160|305=>161|306=>162|307=>163|308=>164|309=>165|310=>166|333=>214|329=>215|330=>216|334=>217|335=>218|336=>219|344=>247|n=>n,λ|31=>28|9=>9|3=>3|46=>151|0=>0|51=>144|53=>132|4=>4|183=>217|182=>216|131=>114|5=>5|218=>267|222=>271|228=>311|229=>312|n=>n,λ|n=>n⟩
def Tryz.lays190:Go.Proofs.Lays.n190 prog Tryz.lays190_ren:={
 mixed:=by kernel_rfl
 f125:=func107.trans (If some (by kernel_rfl))
 f128:=func167.trans (If some (by kernel_rfl))
 f129:=func168.trans (If some (by kernel_rfl))
 f190:=func56.trans (If some (by kernel_rfl))
 f258:=func106.trans (If some (by kernel_rfl))
 f302:=func158.trans (If some (by kernel_rfl))
 f303:=func159.trans (If some (by kernel_rfl))
 f304:=func160.trans (If some (by kernel_rfl))
 f305:=func161.trans (If some (by kernel_rfl))
 f306:=func162.trans (If some (by kernel_rfl))
 f307:=func163.trans (If some (by kernel_rfl))
 f308:=func164.trans (If some (by kernel_rfl))
 f309:=func165.trans (If some (by kernel_rfl))
 f310:=func166.trans (If some (by kernel_rfl))
 f329:=func215.trans (If some (by kernel_rfl))
 f330:=func216.trans (If some (by kernel_rfl))
 f333:=func214.trans (If some (by kernel_rfl))
 f334:=func217.trans (If some (by kernel_rfl))
 f335:=func218.trans (If some (by kernel_rfl))
 f336:=func219.trans (If some (by kernel_rfl))
 f344:=func247.trans (If some (by kernel_rfl))
 t0:=underlying0
 a0:=Tryz.isAgg0
 z0:=Tryz.sizeOf0
 v0:=Tryz.zeroValue0
 t3:=underlying3
 a3:=Tryz.isAgg3
 z3:=Tryz.sizeOf3
 v3:=Tryz.zeroValue3
 t4:=underlying4
 a4:=Tryz.isAgg4
 z4:=Tryz.sizeOf4
 v4:=Tryz.zeroValue4
 t5:=underlying5
 a5:=Tryz.isAgg5
 z5:=Tryz.sizeOf5
 v5:=Tryz.zeroValue5
 t9:=underlying9
 a9:=Tryz.isAgg9
 z9:=Tryz.sizeOf9
 v9:=Tryz.zeroValue9
 t31:=underlying28
 a31:=Tryz.isAgg28
 z31:=Tryz.sizeOf28
 v31:=Tryz.zeroValue28
 t46:=underlying151
 a46:=Tryz.isAgg151
 z46:=Tryz.sizeOf151
 v46:=Tryz.zeroValue151
 t51:=underlying144
 a51:=Tryz.isAgg144
 z51:=Tryz.sizeOf144
 v51:=Tryz.zeroValue144
 t53:=underlying132
 a53:=Tryz.isAgg132
 z53:=Tryz.sizeOf132
 v53:=Tryz.zeroValue132
 t131:=underlying114
 a131:=Tryz.isAgg114
 z131:=Tryz.sizeOf114
 v131:=Tryz.zeroValue114
 t182:=underlying216
 a182:=Tryz.isAgg216
 z182:=Tryz.sizeOf216
 v182:=Tryz.zeroValue216
 t183:=underlying217
 a183:=Tryz.isAgg217
 z183:=Tryz.sizeOf217
 v183:=Tryz.zeroValue217
 t218:=underlying267
 a218:=Tryz.isAgg267
 z218:=Tryz.sizeOf267
 v218:=Tryz.zeroValue267
 t222:=underlying271
 a222:=Tryz.isAgg271
 z222:=Tryz.sizeOf271
 v222:=Tryz.zeroValue271
 t228:=underlying311
 a228:=Tryz.isAgg311
 z228:=Tryz.sizeOf311
 v228:=Tryz.zeroValue311
 t229:=underlying312
 a229:=Tryz.isAgg312
 z229:=Tryz.sizeOf312
 v229:=Tryz.zeroValue312}
open Go.Sort Go.RowKit in
def Tryz.slices_Sort_string(blk off cap:Nat)(ss:List (List UInt8))(w:World)(hH:Holds encStr w blk off ss.toArray)(hblk:blk<w.heap.size)(hsz:ss.length<4611686018427387904):
  Calls prog 56 #[.slice (some ⟨blk,off,none⟩) ss.length cap] w λ e w'=>
   e= .returned (.tuple #[])/\∃ n os,w'=grow (putRow encStr (Sort.ahead w n) blk off (ss.mergeSort λ x y=>decide (x<=y)).toArray) os:=Any.slices_Sort_string Tryz.lays190 blk off cap ss w hH hblk hsz
def Tryz.laysSlF6_f184_ren:Go.Shelf.Ren:=⟨λ|6=>184|15=>107|14=>224|28=>167|29=>168|20=>250|21=>251|22=>252|23=>253|24=>254|25=>255|26=>256|27=>257|46=>272|47=>215|48=>216|49=>273|50=>274|57=>281|n=>n,λ|22=>22|24=>3|25=>44|3=>3|39=>151|0=>0|53=>144|55=>132|4=>4|46=>217|45=>216|50=>114|5=>5|9=>9|66=>267|70=>271|76=>311|77=>312|n=>n,λ|n=>n⟩
def Tryz.laysSlF6_f184:Go.Proofs.SlLaysF.n6 prog Tryz.laysSlF6_f184_ren:={
 mixed:=by kernel_rfl
 f6:=⟨Tryz.f184.name,by decide,func184.trans (If some (by kernel_rfl))⟩
 f14:=⟨Tryz.f224.name,by decide,func224.trans (If some (by kernel_rfl))⟩
 f15:=func107.trans (If some (by kernel_rfl))
 f20:=⟨Tryz.f250.name,by decide,func250.trans (If some (by kernel_rfl))⟩
 f21:=⟨Tryz.f251.name,by decide,func251.trans (If some (by kernel_rfl))⟩
 f22:=⟨Tryz.f252.name,by decide,func252.trans (If some (by kernel_rfl))⟩
 f23:=⟨Tryz.f253.name,by decide,func253.trans (If some (by kernel_rfl))⟩
 f24:=⟨Tryz.f254.name,by decide,func254.trans (If some (by kernel_rfl))⟩
 f25:=⟨Tryz.f255.name,by decide,func255.trans (If some (by kernel_rfl))⟩
 f26:=⟨Tryz.f256.name,by decide,func256.trans (If some (by kernel_rfl))⟩
 f27:=⟨Tryz.f257.name,by decide,func257.trans (If some (by kernel_rfl))⟩
 f28:=func167.trans (If some (by kernel_rfl))
 f29:=func168.trans (If some (by kernel_rfl))
 f46:=⟨Tryz.f272.name,by decide,func272.trans (If some (by kernel_rfl))⟩
 f47:=func215.trans (If some (by kernel_rfl))
 f48:=func216.trans (If some (by kernel_rfl))
 f49:=⟨Tryz.f273.name,by decide,func273.trans (If some (by kernel_rfl))⟩
 f50:=⟨Tryz.f274.name,by decide,func274.trans (If some (by kernel_rfl))⟩
 f57:=⟨Tryz.f281.name,by decide,func281.trans (If some (by kernel_rfl))⟩
 t0:=underlying0
 a0:=Tryz.isAgg0
 z0:=Tryz.sizeOf0
 v0:=Tryz.zeroValue0
 t3:=underlying3
 a3:=Tryz.isAgg3
 z3:=Tryz.sizeOf3
 v3:=Tryz.zeroValue3
 t4:=underlying4
 a4:=Tryz.isAgg4
 z4:=Tryz.sizeOf4
 v4:=Tryz.zeroValue4
 t5:=underlying5
 a5:=Tryz.isAgg5
 z5:=Tryz.sizeOf5
 v5:=Tryz.zeroValue5
 t9:=underlying9
 a9:=Tryz.isAgg9
 z9:=Tryz.sizeOf9
 v9:=Tryz.zeroValue9
 t22:=underlying22
 a22:=Tryz.isAgg22
 z22:=Tryz.sizeOf22
 v22:=Tryz.zeroValue22
 a24:=Tryz.isAgg3
 z24:=Tryz.sizeOf3
 t25:=underlying44
 a25:=Tryz.isAgg44
 z25:=Tryz.sizeOf44
 v25:=Tryz.zeroValue44
 t39:=underlying151
 a39:=Tryz.isAgg151
 z39:=Tryz.sizeOf151
 v39:=Tryz.zeroValue151
 t45:=underlying216
 a45:=Tryz.isAgg216
 z45:=Tryz.sizeOf216
 v45:=Tryz.zeroValue216
 t46:=underlying217
 a46:=Tryz.isAgg217
 z46:=Tryz.sizeOf217
 v46:=Tryz.zeroValue217
 t50:=underlying114
 a50:=Tryz.isAgg114
 z50:=Tryz.sizeOf114
 v50:=Tryz.zeroValue114
 t53:=underlying144
 a53:=Tryz.isAgg144
 z53:=Tryz.sizeOf144
 v53:=Tryz.zeroValue144
 t55:=underlying132
 a55:=Tryz.isAgg132
 z55:=Tryz.sizeOf132
 v55:=Tryz.zeroValue132
 t66:=underlying267
 a66:=Tryz.isAgg267
 z66:=Tryz.sizeOf267
 v66:=Tryz.zeroValue267
 t70:=underlying271
 a70:=Tryz.isAgg271
 z70:=Tryz.sizeOf271
 v70:=Tryz.zeroValue271
 t76:=underlying311
 a76:=Tryz.isAgg311
 z76:=Tryz.sizeOf311
 v76:=Tryz.zeroValue311
 t77:=underlying312
 a77:=Tryz.isAgg312
 z77:=Tryz.sizeOf312
 v77:=Tryz.zeroValue312}
open Go.RowKit Go.Lib Go.Sort in
def Tryz.slices_SortFunc{α:Type}[Inhabited α](enc:α->Value)(h1:OneCell enc)(cf:α->α->Int)(hO:SWO (ltOf cf))(g:Nat)(cb:Array Value)(blk off cap:Nat)(d:Array α)(w:World)(eg:∀ args w,(callFunc g args).run prog w= .ok (.enter g args) w)(hcmp:CmpLays1 prog g cb enc cf blk off d.size w)(hH:Holds enc w blk off d)(hblk:blk<w.heap.size)(hsz:d.size<4611686018427387904):
  Calls prog 184 #[.slice (some ⟨blk,off,none⟩) d.size cap,.func (.func g) #[] cb] w λ e w'=>
   e= .returned (.tuple #[])/\∃ d' n os,PermIn 0 d.size d d'/\SortedIn (ltOf cf) 0 d.size d'/\w'=sortWorld enc w blk off n d' os:=Any.slices_SortFunc Tryz.laysSlF6_f184 enc h1 cf hO g cb blk off cap d w eg hcmp hH hblk hsz
def Tryz.laysSlF06_f184_ren:Go.Shelf.Ren:=⟨λ|6=>184|15=>107|14=>224|28=>167|29=>168|20=>250|21=>251|22=>252|23=>253|24=>254|25=>255|26=>256|27=>257|46=>272|47=>215|48=>216|49=>273|50=>274|57=>281|n=>n,λ|22=>22|24=>3|25=>44|3=>3|39=>151|0=>0|53=>144|55=>132|4=>4|46=>217|45=>216|50=>114|5=>5|9=>9|66=>267|70=>271|76=>311|77=>312|n=>n,λ|n=>n⟩
def Tryz.laysSlF06_f184:Go.Proofs.SlLaysF0.n6 prog Tryz.laysSlF06_f184_ren:={
 mixed:=by kernel_rfl
 f6:=⟨Tryz.f184.name,by decide,func184.trans (If some (by kernel_rfl))⟩
 f14:=⟨Tryz.f224.name,by decide,func224.trans (If some (by kernel_rfl))⟩
 f15:=func107.trans (If some (by kernel_rfl))
 f20:=⟨Tryz.f250.name,by decide,func250.trans (If some (by kernel_rfl))⟩
 f21:=⟨Tryz.f251.name,by decide,func251.trans (If some (by kernel_rfl))⟩
 f22:=⟨Tryz.f252.name,by decide,func252.trans (If some (by kernel_rfl))⟩
 f23:=⟨Tryz.f253.name,by decide,func253.trans (If some (by kernel_rfl))⟩
 f24:=⟨Tryz.f254.name,by decide,func254.trans (If some (by kernel_rfl))⟩
 f25:=⟨Tryz.f255.name,by decide,func255.trans (If some (by kernel_rfl))⟩
 f26:=⟨Tryz.f256.name,by decide,func256.trans (If some (by kernel_rfl))⟩
 f27:=⟨Tryz.f257.name,by decide,func257.trans (If some (by kernel_rfl))⟩
 f28:=func167.trans (If some (by kernel_rfl))
 f29:=func168.trans (If some (by kernel_rfl))
 f46:=⟨Tryz.f272.name,by decide,func272.trans (If some (by kernel_rfl))⟩
 f47:=func215.trans (If some (by kernel_rfl))
 f48:=func216.trans (If some (by kernel_rfl))
 f49:=⟨Tryz.f273.name,by decide,func273.trans (If some (by kernel_rfl))⟩
 f50:=⟨Tryz.f274.name,by decide,func274.trans (If some (by kernel_rfl))⟩
 f57:=⟨Tryz.f281.name,by decide,func281.trans (If some (by kernel_rfl))⟩
 t0:=underlying0
 a0:=Tryz.isAgg0
 z0:=Tryz.sizeOf0
 v0:=Tryz.zeroValue0
 t3:=underlying3
 a3:=Tryz.isAgg3
 z3:=Tryz.sizeOf3
 v3:=Tryz.zeroValue3
 t4:=underlying4
 a4:=Tryz.isAgg4
 z4:=Tryz.sizeOf4
 v4:=Tryz.zeroValue4
 t5:=underlying5
 a5:=Tryz.isAgg5
 z5:=Tryz.sizeOf5
 v5:=Tryz.zeroValue5
 t9:=underlying9
 a9:=Tryz.isAgg9
 z9:=Tryz.sizeOf9
 v9:=Tryz.zeroValue9
 t22:=underlying22
 a22:=Tryz.isAgg22
 z22:=Tryz.sizeOf22
 v22:=Tryz.zeroValue22
 t25:=underlying44
 a25:=Tryz.isAgg44
 z25:=Tryz.sizeOf44
 v25:=Tryz.zeroValue44
 t39:=underlying151
 a39:=Tryz.isAgg151
 z39:=Tryz.sizeOf151
 v39:=Tryz.zeroValue151
 t45:=underlying216
 a45:=Tryz.isAgg216
 z45:=Tryz.sizeOf216
 v45:=Tryz.zeroValue216
 t46:=underlying217
 a46:=Tryz.isAgg217
 z46:=Tryz.sizeOf217
 v46:=Tryz.zeroValue217
 t50:=underlying114
 a50:=Tryz.isAgg114
 z50:=Tryz.sizeOf114
 v50:=Tryz.zeroValue114
 t53:=underlying144
 a53:=Tryz.isAgg144
 z53:=Tryz.sizeOf144
 v53:=Tryz.zeroValue144
 t55:=underlying132
 a55:=Tryz.isAgg132
 z55:=Tryz.sizeOf132
 v55:=Tryz.zeroValue132
 t66:=underlying267
 a66:=Tryz.isAgg267
 z66:=Tryz.sizeOf267
 v66:=Tryz.zeroValue267
 t70:=underlying271
 a70:=Tryz.isAgg271
 z70:=Tryz.sizeOf271
 v70:=Tryz.zeroValue271
 t76:=underlying311
 a76:=Tryz.isAgg311
 z76:=Tryz.sizeOf311
 v76:=Tryz.zeroValue311
 t77:=underlying312
 a77:=Tryz.isAgg312
 z77:=Tryz.sizeOf312
 v77:=Tryz.zeroValue312}
open Go.RowKit Go.Lib Go.Sort in
def Tryz.slices_SortFunc_none{α:Type}[Inhabited α](p:Option Addr)(cap:Nat)(fv:Value)(w:World):
  Calls prog 184 #[.slice p 0 cap,fv] w λ e w'=>e= .returned (.tuple #[])/\w'=w:=AnyF.slices_SortFunc_none Tryz.laysSlF06_f184 p cap fv w
