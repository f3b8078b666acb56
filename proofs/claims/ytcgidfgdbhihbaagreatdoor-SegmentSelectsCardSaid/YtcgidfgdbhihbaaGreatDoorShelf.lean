/-
 DERIVED:THE SHELF's CONTRACTS AT THIS DUMP,IN PLAIN WORDS (tools/lay-plain.mjs out of 'TryzShelf.lean',which tools/lay-shelf.mjs wrote):THE SAME DECLARATIONS UNDER THE SAME NAMES:'import','namespace','open','def','theorem' AND NOTHING ELSE:no command of the shelf's:FOR A HAND-IN. Each laying:the table of numbers ('.._ren') and one theorem,a field a fact of the dump's own or the kernel's comparison;each contract:ONE APPLICATION.
-/
import Derived.Test.YtcgidfgdbhihbaaGreatDoorAl
import Derived.Shelf.Small.Utf8
import Derived.Shelf.Small.Bits
import Derived.Shelf.Small.Strs
import Derived.Shelf.Strconv.Itoa0
import Derived.Shelf.Strings.Search1
import Derived.Shelf.Strings.Search2
import Derived.Shelf.Strings.Search3
import Derived.Shelf.LaysM
import Derived.Shelf.Strings.Shaped
import Derived.Shelf.Sort.Plain
import Derived.Shelf.Unicode.Decode
import Derived.Shelf.Strings.Runes
import Derived.Shelf.Unicode.DecodeSlow
import Derived.Shelf.Unicode.DecodeAny
import Derived.Shelf.Slices.Turned
import Derived.Shelf.Slices.In.SortNone
import Derived.Ground.SlsfProg
import Derived.Shelf.SlSortCmp.Insertion
import Derived.Shelf.SlSortCmp.SiftDown1
import Derived.Shelf.SlSortCmp.HeapSort1
import Derived.Shelf.SlSortCmp.Insertion1
import Derived.Shelf.SlSortCmp.Median1
import Derived.Shelf.SlSortCmp.Pivot1
import Derived.Shelf.SlSortCmp.ReverseRange1
import Derived.Shelf.SlSortCmp.PartialInsertion1
import Derived.Shelf.SlSortCmp.PartitionEqual1
import Derived.Shelf.SlSortCmp.Partition1
import Derived.Shelf.SlSortCmp.Pdq1
import Derived.Shelf.SlSortCmp.Whole1
import Derived.Shelf.SlSortCmp.NoneTotal
import Derived.Shelf.Bytes.SlEqualAll
import Derived.Shelf.Bytes.Small
import Derived.Test.YtcgidfgdbhihbaaGreatDoorProg
set_option linter.all false
open Go.Proofs.YtcgidfgdbhihbaaGreatDoor
open Go.Proofs.Tryz
namespace Go.Proofs
open Go.Shelf
def Tryz.lays125_ren:Go.Shelf.Ren:=⟨λ|125=>237|128=>279|129=>244|n=>n,λ|46=>108|3=>3|51=>106|53=>102|4=>4|5=>5|9=>9|n=>n,λ|n=>n⟩
def Tryz.lays125:Go.Proofs.Lays.n125 prog Tryz.lays125_ren:={
 mixed:=F
 f125:=func237.trans (If some F)
 f128:=func279.trans (If some F)
 f129:=func244.trans (If some F)
 t3:=underlying3
 a3:=Tryz.isAgg3
 z3:=Tryz.sizeOf3
 v3:=Tryz.zeroValue3
 t4:=underlying4
 a4:=Tryz.isAgg4
 z4:=Tryz.sizeOf4
 v4:=Tryz.zeroValue4
 t5:=underlying5
 a5:=Tryz.isAgg5
 z5:=Tryz.sizeOf5
 v5:=Tryz.zeroValue5
 t9:=underlying9
 a9:=Tryz.isAgg9
 z9:=Tryz.sizeOf9
 v9:=Tryz.zeroValue9
 t46:=underlying108
 a46:=Tryz.isAgg108
 z46:=Tryz.sizeOf108
 v46:=Tryz.zeroValue108
 t51:=underlying106
 a51:=Tryz.isAgg106
 z51:=Tryz.sizeOf106
 v51:=Tryz.zeroValue106
 t53:=underlying102
 a53:=Tryz.isAgg102
 z53:=Tryz.sizeOf102
 v53:=Tryz.zeroValue102}
def Tryz.bits_Len(x:Int)(w:World)(h0:0<=x)(h1:x<=18446744073709551615):
  Calls prog 237 #[.int .u64 x] w λ e W=>e= .returned (.int .i64 (Lib.bitLen x.toNat))/\W=w:=Any.bits_Len Tryz.lays125 x w h0 h1
def Tryz.lays213_ren:Go.Shelf.Ren:=⟨λ|213=>252|265=>297|n=>n,λ|9=>9|3=>3|n=>n,λ|n=>n⟩
def Tryz.lays106_ren:Go.Shelf.Ren:=⟨λ|106=>213|213=>252|265=>297|n=>n,λ|9=>9|3=>3|n=>n,λ|n=>n⟩
def Tryz.lays106:Go.Proofs.Lays.n106 prog Tryz.lays106_ren:={
 mixed:=F
 f106:=func213.trans (If some F)
 f213:=func252.trans (If some F)
 f265:=func297.trans (If some F)
 t3:=underlying3
 a3:=Tryz.isAgg3
 z3:=Tryz.sizeOf3
 v3:=Tryz.zeroValue3
 t9:=underlying9
 a9:=Tryz.isAgg9
 z9:=Tryz.sizeOf9
 v9:=Tryz.zeroValue9}
open Go.RowKit in
def Tryz.strings_Compare(a b:ByteArray)(w:World):
  Calls prog 213 #[.string a,.string b] w λ e W=>e= .returned (.int .i64 (Lib.compareBytes a.data.toList b.data.toList))/\W=w:=Any.strings_Compare Tryz.lays106 a b w
def Tryz.lays129_ren:Go.Shelf.Ren:=⟨λ|129=>244|n=>n,λ|53=>102|3=>3|4=>4|46=>108|5=>5|9=>9|n=>n,λ|n=>n⟩
def Tryz.lays129:Go.Proofs.Lays.n129 prog Tryz.lays129_ren:={
 mixed:=F
 f129:=func244.trans (If some F)
 t3:=underlying3
 a3:=Tryz.isAgg3
 z3:=Tryz.sizeOf3
 v3:=Tryz.zeroValue3
 t4:=underlying4
 a4:=Tryz.isAgg4
 z4:=Tryz.sizeOf4
 v4:=Tryz.zeroValue4
 t5:=underlying5
 a5:=Tryz.isAgg5
 z5:=Tryz.sizeOf5
 v5:=Tryz.zeroValue5
 t9:=underlying9
 a9:=Tryz.isAgg9
 z9:=Tryz.sizeOf9
 v9:=Tryz.zeroValue9
 t46:=underlying108
 a46:=Tryz.isAgg108
 z46:=Tryz.sizeOf108
 v46:=Tryz.zeroValue108
 t53:=underlying102
 a53:=Tryz.isAgg102
 z53:=Tryz.sizeOf102
 v53:=Tryz.zeroValue102}
def Tryz.bits_Len64(x:Int)(w:World)(h0:0<=x)(h1:x<=18446744073709551615):
  Calls prog 244 #[.int .u64 x] w λ e W=>e= .returned (.int .i64 (Lib.bitLen x.toNat))/\W=w:=Any.bits_Len64 Tryz.lays129 x w h0 h1
def Tryz.lays219_ren:Go.Shelf.Ren:=⟨λ|219=>223|217=>261|225=>262|224=>263|267=>264|266=>303|314=>304|n=>n,λ|9=>9|3=>3|4=>4|5=>5|46=>108|146=>373|51=>106|n=>n,λ|1=>0|n=>n⟩
def Tryz.lays144_ren:Go.Shelf.Ren:=⟨λ|144=>118|143=>172|219=>223|217=>261|225=>262|224=>263|267=>264|266=>303|314=>304|n=>n,λ|9=>9|4=>4|3=>3|5=>5|46=>108|146=>373|51=>106|n=>n,λ|1=>0|n=>n⟩
def Tryz.lays144:Go.Proofs.Lays.n144 prog Tryz.lays144_ren:={
 mixed:=F
 f143:=func172.trans (If some F)
 f144:=func118.trans (If some F)
 f217:=func261.trans (If some F)
 f219:=func223.trans (If some F)
 f224:=func263.trans (If some F)
 f225:=func262.trans (If some F)
 f266:=func303.trans (If some F)
 f267:=func264.trans (If some F)
 f314:=func304.trans (If some F)
 t3:=underlying3
 a3:=Tryz.isAgg3
 z3:=Tryz.sizeOf3
 v3:=Tryz.zeroValue3
 t4:=underlying4
 a4:=Tryz.isAgg4
 z4:=Tryz.sizeOf4
 v4:=Tryz.zeroValue4
 t5:=underlying5
 a5:=Tryz.isAgg5
 z5:=Tryz.sizeOf5
 v5:=Tryz.zeroValue5
 t9:=underlying9
 a9:=Tryz.isAgg9
 z9:=Tryz.sizeOf9
 v9:=Tryz.zeroValue9
 t46:=underlying108
 a46:=Tryz.isAgg108
 z46:=Tryz.sizeOf108
 v46:=Tryz.zeroValue108
 t51:=underlying106
 a51:=Tryz.isAgg106
 z51:=Tryz.sizeOf106
 v51:=Tryz.zeroValue106
 t146:=underlying373
 a146:=Tryz.isAgg373
 z146:=Tryz.sizeOf373
 v146:=Tryz.zeroValue373
 g1:=F}
open Go.RowKit Go.Lib in
def Tryz.strings_Contains_one(s:ByteArray)(c:UInt8)(w:World):
  Calls prog 118 #[.string s,.string ⟨#[c]⟩] w λ e W=>e= .returned (.bool (decide (0<=Lib.indexByte s.data.toList c)))/\W=w:=Any.strings_Contains_one Tryz.lays144 s c w
def Tryz.lays190_ren:Go.Shelf.Ren:=⟨λ|190=>192|125=>237|258=>236|128=>279|129=>244|302=>270|303=>271|304=>272|305=>273|306=>274|307=>275|308=>276|309=>277|310=>278|333=>311|329=>312|330=>313|334=>314|335=>315|336=>316|344=>335|n=>n,λ|31=>28|9=>9|3=>3|46=>108|0=>0|51=>106|53=>102|4=>4|183=>342|182=>341|131=>170|5=>5|218=>379|222=>293|228=>402|229=>117|n=>n,λ|n=>n⟩
def Tryz.lays190:Go.Proofs.Lays.n190 prog Tryz.lays190_ren:={
 mixed:=F
 f125:=func237.trans (If some F)
 f128:=func279.trans (If some F)
 f129:=func244.trans (If some F)
 f190:=func192.trans (If some F)
 f258:=func236.trans (If some F)
 f302:=func270.trans (If some F)
 f303:=func271.trans (If some F)
 f304:=func272.trans (If some F)
 f305:=func273.trans (If some F)
 f306:=func274.trans (If some F)
 f307:=func275.trans (If some F)
 f308:=func276.trans (If some F)
 f309:=func277.trans (If some F)
 f310:=func278.trans (If some F)
 f329:=func312.trans (If some F)
 f330:=func313.trans (If some F)
 f333:=func311.trans (If some F)
 f334:=func314.trans (If some F)
 f335:=func315.trans (If some F)
 f336:=func316.trans (If some F)
 f344:=func335.trans (If some F)
 t0:=underlying0
 a0:=Tryz.isAgg0
 z0:=Tryz.sizeOf0
 v0:=Tryz.zeroValue0
 t3:=underlying3
 a3:=Tryz.isAgg3
 z3:=Tryz.sizeOf3
 v3:=Tryz.zeroValue3
 t4:=underlying4
 a4:=Tryz.isAgg4
 z4:=Tryz.sizeOf4
 v4:=Tryz.zeroValue4
 t5:=underlying5
 a5:=Tryz.isAgg5
 z5:=Tryz.sizeOf5
 v5:=Tryz.zeroValue5
 t9:=underlying9
 a9:=Tryz.isAgg9
 z9:=Tryz.sizeOf9
 v9:=Tryz.zeroValue9
 t31:=underlying28
 a31:=Tryz.isAgg28
 z31:=Tryz.sizeOf28
 v31:=Tryz.zeroValue28
 t46:=underlying108
 a46:=Tryz.isAgg108
 z46:=Tryz.sizeOf108
 v46:=Tryz.zeroValue108
 t51:=underlying106
 a51:=Tryz.isAgg106
 z51:=Tryz.sizeOf106
 v51:=Tryz.zeroValue106
 t53:=underlying102
 a53:=Tryz.isAgg102
 z53:=Tryz.sizeOf102
 v53:=Tryz.zeroValue102
 t131:=underlying170
 a131:=Tryz.isAgg170
 z131:=Tryz.sizeOf170
 v131:=Tryz.zeroValue170
 t182:=underlying341
 a182:=Tryz.isAgg341
 z182:=Tryz.sizeOf341
 v182:=Tryz.zeroValue341
 t183:=underlying342
 a183:=Tryz.isAgg342
 z183:=Tryz.sizeOf342
 v183:=Tryz.zeroValue342
 t218:=underlying379
 a218:=Tryz.isAgg379
 z218:=Tryz.sizeOf379
 v218:=Tryz.zeroValue379
 t222:=underlying293
 a222:=Tryz.isAgg293
 z222:=Tryz.sizeOf293
 v222:=Tryz.zeroValue293
 t228:=underlying402
 a228:=Tryz.isAgg402
 z228:=Tryz.sizeOf402
 v228:=Tryz.zeroValue402
 t229:=underlying117
 a229:=Tryz.isAgg117
 z229:=Tryz.sizeOf117
 v229:=Tryz.zeroValue117}
open Go.Sort Go.RowKit in
def Tryz.slices_Sort_string(k off cap:Nat)(d:List (List UInt8))(w:World)(i:Holds encStr w k off d.toArray)(H:k<w.heap.size)(g:d.length<4611686018427387904):
  Calls prog 192 #[.slice (some ⟨k,off,none⟩) d.length cap] w λ e W=>
   e= .returned (.tuple #[])/\∃ n o,W=grow (putRow encStr (Sort.ahead w n) k off (d.mergeSort λ x y=>decide (x<=y)).toArray) o:=Any.slices_Sort_string Tryz.lays190 k off cap d w i H g
def Tryz.lays151_ren:Go.Shelf.Ren:=⟨λ|151=>330|152=>343|137=>352|119=>353|224=>263|225=>262|217=>261|266=>303|n=>n,λ|9=>9|21=>21|4=>4|3=>3|5=>5|0=>0|46=>108|n=>n,λ|n=>n⟩
def Tryz.lays151:Go.Proofs.Lays.n151 prog Tryz.lays151_ren:={
 mixed:=F
 f119:=func353.trans (If some F)
 f137:=func352.trans (If some F)
 f151:=func330.trans (If some F)
 f152:=func343.trans (If some F)
 f217:=func261.trans (If some F)
 f224:=func263.trans (If some F)
 f225:=func262.trans (If some F)
 f266:=func303.trans (If some F)
 t0:=underlying0
 a0:=Tryz.isAgg0
 z0:=Tryz.sizeOf0
 v0:=Tryz.zeroValue0
 t3:=underlying3
 a3:=Tryz.isAgg3
 z3:=Tryz.sizeOf3
 v3:=Tryz.zeroValue3
 t4:=underlying4
 a4:=Tryz.isAgg4
 z4:=Tryz.sizeOf4
 v4:=Tryz.zeroValue4
 t5:=underlying5
 a5:=Tryz.isAgg5
 z5:=Tryz.sizeOf5
 v5:=Tryz.zeroValue5
 t9:=underlying9
 a9:=Tryz.isAgg9
 z9:=Tryz.sizeOf9
 v9:=Tryz.zeroValue9
 t21:=underlying21
 a21:=Tryz.isAgg21
 z21:=Tryz.sizeOf21
 v21:=Tryz.zeroValue21
 t46:=underlying108
 a46:=Tryz.isAgg108
 z46:=Tryz.sizeOf108
 v46:=Tryz.zeroValue108}
open Go.RowKit Go.Lib in
def Tryz.strings_ContainsRune_ascii(s:ByteArray)(r:Int)(w:World)(h0:0<=r)(h1:r<128):
  Calls prog 330 #[.string s,.int .i32 r] w λ e W=>e= .returned (.bool (decide (0<=Lib.indexByte s.data.toList r.toNat.toUInt8)))/\W=w:=Any.strings_ContainsRune_ascii Tryz.lays151 s r w h0 h1
def Tryz.laysSlF6_f211_ren:Go.Shelf.Ren:=⟨λ|6=>211|15=>237|14=>251|28=>279|29=>244|20=>289|21=>290|22=>291|23=>292|24=>293|25=>294|26=>295|27=>296|46=>322|47=>312|48=>313|49=>323|50=>324|57=>338|n=>n,λ|22=>22|24=>3|25=>91|3=>3|39=>108|0=>0|53=>106|55=>102|4=>4|46=>342|45=>341|50=>170|5=>5|9=>9|66=>379|70=>293|76=>402|77=>117|n=>n,λ|n=>n⟩
def Tryz.laysSlF6_f211:Go.Proofs.SlLaysF.n6 prog Tryz.laysSlF6_f211_ren:={
 mixed:=F
 f6:=⟨Tryz.f211.name,bl,func211.trans (If some F)⟩
 f14:=⟨Tryz.f251.name,bl,func251.trans (If some F)⟩
 f15:=func237.trans (If some F)
 f20:=⟨Tryz.f289.name,bl,func289.trans (If some F)⟩
 f21:=⟨Tryz.f290.name,bl,func290.trans (If some F)⟩
 f22:=⟨Tryz.f291.name,bl,func291.trans (If some F)⟩
 f23:=⟨Tryz.f292.name,bl,func292.trans (If some F)⟩
 f24:=⟨Tryz.f293.name,bl,func293.trans (If some F)⟩
 f25:=⟨Tryz.f294.name,bl,func294.trans (If some F)⟩
 f26:=⟨Tryz.f295.name,bl,func295.trans (If some F)⟩
 f27:=⟨Tryz.f296.name,bl,func296.trans (If some F)⟩
 f28:=func279.trans (If some F)
 f29:=func244.trans (If some F)
 f46:=⟨Tryz.f322.name,bl,func322.trans (If some F)⟩
 f47:=func312.trans (If some F)
 f48:=func313.trans (If some F)
 f49:=⟨Tryz.f323.name,bl,func323.trans (If some F)⟩
 f50:=⟨Tryz.f324.name,bl,func324.trans (If some F)⟩
 f57:=⟨Tryz.f338.name,bl,func338.trans (If some F)⟩
 t0:=underlying0
 a0:=Tryz.isAgg0
 z0:=Tryz.sizeOf0
 v0:=Tryz.zeroValue0
 t3:=underlying3
 a3:=Tryz.isAgg3
 z3:=Tryz.sizeOf3
 v3:=Tryz.zeroValue3
 t4:=underlying4
 a4:=Tryz.isAgg4
 z4:=Tryz.sizeOf4
 v4:=Tryz.zeroValue4
 t5:=underlying5
 a5:=Tryz.isAgg5
 z5:=Tryz.sizeOf5
 v5:=Tryz.zeroValue5
 t9:=underlying9
 a9:=Tryz.isAgg9
 z9:=Tryz.sizeOf9
 v9:=Tryz.zeroValue9
 t22:=underlying22
 a22:=Tryz.isAgg22
 z22:=Tryz.sizeOf22
 v22:=Tryz.zeroValue22
 a24:=Tryz.isAgg3
 z24:=Tryz.sizeOf3
 t25:=underlying91
 a25:=Tryz.isAgg91
 z25:=Tryz.sizeOf91
 v25:=Tryz.zeroValue91
 t39:=underlying108
 a39:=Tryz.isAgg108
 z39:=Tryz.sizeOf108
 v39:=Tryz.zeroValue108
 t45:=underlying341
 a45:=Tryz.isAgg341
 z45:=Tryz.sizeOf341
 v45:=Tryz.zeroValue341
 t46:=underlying342
 a46:=Tryz.isAgg342
 z46:=Tryz.sizeOf342
 v46:=Tryz.zeroValue342
 t50:=underlying170
 a50:=Tryz.isAgg170
 z50:=Tryz.sizeOf170
 v50:=Tryz.zeroValue170
 t53:=underlying106
 a53:=Tryz.isAgg106
 z53:=Tryz.sizeOf106
 v53:=Tryz.zeroValue106
 t55:=underlying102
 a55:=Tryz.isAgg102
 z55:=Tryz.sizeOf102
 v55:=Tryz.zeroValue102
 t66:=underlying379
 a66:=Tryz.isAgg379
 z66:=Tryz.sizeOf379
 v66:=Tryz.zeroValue379
 t70:=underlying293
 a70:=Tryz.isAgg293
 z70:=Tryz.sizeOf293
 v70:=Tryz.zeroValue293
 t76:=underlying402
 a76:=Tryz.isAgg402
 z76:=Tryz.sizeOf402
 v76:=Tryz.zeroValue402
 t77:=underlying117
 a77:=Tryz.isAgg117
 z77:=Tryz.sizeOf117
 v77:=Tryz.zeroValue117}
open Go.RowKit Go.Lib Go.Sort in
def Tryz.slices_SortFunc{α:Type}[Inhabited α](enc:α->Value)(h1:OneCell enc)(i:α->α->Int)(q:SWO (ltOf i))(g:Nat)(j:Array Value)(k off cap:Nat)(d:Array α)(w:World)(E:∀ A w,(callFunc g A).run prog w= .ok (.enter g A) w)(p:CmpLays1 prog g j enc i k off d.size w)(o:Holds enc w k off d)(H:k<w.heap.size)(l:d.size<4611686018427387904):
  Calls prog 211 #[.slice (some ⟨k,off,none⟩) d.size cap,.func (.func g) #[] j] w λ e W=>
   e= .returned (.tuple #[])/\∃ D n r,PermIn 0 d.size d D/\SortedIn (ltOf i) 0 d.size D/\W=sortWorld enc w k off n D r:=Any.slices_SortFunc Tryz.laysSlF6_f211 enc h1 i q g j k off cap d w E p o H l
def Tryz.laysSlF06_f211_ren:Go.Shelf.Ren:=⟨λ|6=>211|15=>237|14=>251|28=>279|29=>244|20=>289|21=>290|22=>291|23=>292|24=>293|25=>294|26=>295|27=>296|46=>322|47=>312|48=>313|49=>323|50=>324|57=>338|n=>n,λ|22=>22|24=>3|25=>91|3=>3|39=>108|0=>0|53=>106|55=>102|4=>4|46=>342|45=>341|50=>170|5=>5|9=>9|66=>379|70=>293|76=>402|77=>117|n=>n,λ|n=>n⟩
def Tryz.laysSlF06_f211:Go.Proofs.SlLaysF0.n6 prog Tryz.laysSlF06_f211_ren:={
 mixed:=F
 f6:=⟨Tryz.f211.name,bl,func211.trans (If some F)⟩
 f14:=⟨Tryz.f251.name,bl,func251.trans (If some F)⟩
 f15:=func237.trans (If some F)
 f20:=⟨Tryz.f289.name,bl,func289.trans (If some F)⟩
 f21:=⟨Tryz.f290.name,bl,func290.trans (If some F)⟩
 f22:=⟨Tryz.f291.name,bl,func291.trans (If some F)⟩
 f23:=⟨Tryz.f292.name,bl,func292.trans (If some F)⟩
 f24:=⟨Tryz.f293.name,bl,func293.trans (If some F)⟩
 f25:=⟨Tryz.f294.name,bl,func294.trans (If some F)⟩
 f26:=⟨Tryz.f295.name,bl,func295.trans (If some F)⟩
 f27:=⟨Tryz.f296.name,bl,func296.trans (If some F)⟩
 f28:=func279.trans (If some F)
 f29:=func244.trans (If some F)
 f46:=⟨Tryz.f322.name,bl,func322.trans (If some F)⟩
 f47:=func312.trans (If some F)
 f48:=func313.trans (If some F)
 f49:=⟨Tryz.f323.name,bl,func323.trans (If some F)⟩
 f50:=⟨Tryz.f324.name,bl,func324.trans (If some F)⟩
 f57:=⟨Tryz.f338.name,bl,func338.trans (If some F)⟩
 t0:=underlying0
 a0:=Tryz.isAgg0
 z0:=Tryz.sizeOf0
 v0:=Tryz.zeroValue0
 t3:=underlying3
 a3:=Tryz.isAgg3
 z3:=Tryz.sizeOf3
 v3:=Tryz.zeroValue3
 t4:=underlying4
 a4:=Tryz.isAgg4
 z4:=Tryz.sizeOf4
 v4:=Tryz.zeroValue4
 t5:=underlying5
 a5:=Tryz.isAgg5
 z5:=Tryz.sizeOf5
 v5:=Tryz.zeroValue5
 t9:=underlying9
 a9:=Tryz.isAgg9
 z9:=Tryz.sizeOf9
 v9:=Tryz.zeroValue9
 t22:=underlying22
 a22:=Tryz.isAgg22
 z22:=Tryz.sizeOf22
 v22:=Tryz.zeroValue22
 t25:=underlying91
 a25:=Tryz.isAgg91
 z25:=Tryz.sizeOf91
 v25:=Tryz.zeroValue91
 t39:=underlying108
 a39:=Tryz.isAgg108
 z39:=Tryz.sizeOf108
 v39:=Tryz.zeroValue108
 t45:=underlying341
 a45:=Tryz.isAgg341
 z45:=Tryz.sizeOf341
 v45:=Tryz.zeroValue341
 t46:=underlying342
 a46:=Tryz.isAgg342
 z46:=Tryz.sizeOf342
 v46:=Tryz.zeroValue342
 t50:=underlying170
 a50:=Tryz.isAgg170
 z50:=Tryz.sizeOf170
 v50:=Tryz.zeroValue170
 t53:=underlying106
 a53:=Tryz.isAgg106
 z53:=Tryz.sizeOf106
 v53:=Tryz.zeroValue106
 t55:=underlying102
 a55:=Tryz.isAgg102
 z55:=Tryz.sizeOf102
 v55:=Tryz.zeroValue102
 t66:=underlying379
 a66:=Tryz.isAgg379
 z66:=Tryz.sizeOf379
 v66:=Tryz.zeroValue379
 t70:=underlying293
 a70:=Tryz.isAgg293
 z70:=Tryz.sizeOf293
 v70:=Tryz.zeroValue293
 t76:=underlying402
 a76:=Tryz.isAgg402
 z76:=Tryz.sizeOf402
 v76:=Tryz.zeroValue402
 t77:=underlying117
 a77:=Tryz.isAgg117
 z77:=Tryz.sizeOf117
 v77:=Tryz.zeroValue117}
open Go.RowKit Go.Lib Go.Sort in
def Tryz.slices_SortFunc_none{α:Type}[Inhabited α](p:Option Addr)(cap:Nat)(d:Value)(w:World):
  Calls prog 211 #[.slice p 0 cap,d] w λ e W=>e= .returned (.tuple #[])/\W=w:=AnyF.slices_SortFunc_none Tryz.laysSlF06_f211 p cap d w
