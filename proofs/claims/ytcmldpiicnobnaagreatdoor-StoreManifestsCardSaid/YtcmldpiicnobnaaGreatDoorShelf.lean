/-
 DERIVED:THE SHELF's CONTRACTS AT THIS DUMP,IN PLAIN WORDS (tools/lay-plain.mjs out of 'TryzShelf.lean',which tools/lay-shelf.mjs wrote):THE SAME DECLARATIONS UNDER THE SAME NAMES:'import','namespace','open','def','theorem' AND NOTHING ELSE:no command of the shelf's:FOR A HAND-IN. Each laying:the table of numbers ('.._ren') and one theorem,a field a fact of the dump's own or the kernel's comparison;each contract:ONE APPLICATION.
-/
import Derived.Test.YtcmldpiicnobnaaGreatDoorAl
import Derived.Shelf.Strings.Builder1
import Derived.Shelf.Strings.Builder2
import Derived.Shelf.Strings.OnBuilder
import Derived.Shelf.Strings.BuilderF
import Derived.Shelf.Strings.BuilderK
import Derived.Shelf.Strings.Builder2Cap
import Derived.Shelf.Strconv.Atoi
import Derived.Shelf.Strconv.Itoa0
import Derived.Shelf.Strconv.Itoa1
import Derived.Shelf.LaysM
import Derived.Shelf.Strconv.Itoa2
import Derived.Shelf.Strconv.Itoa3
import Derived.Shelf.Strconv.AtoiErrFast
import Derived.Shelf.Strconv.ParseIntEmpty
import Derived.Shelf.Strconv.AtoiFail
import Derived.Shelf.Strconv.Clone
import Derived.Shelf.Strconv.SyntaxError
import Derived.Shelf.LaysC
import Derived.Shelf.Strconv.ToError
import Derived.Shelf.Strconv.Lower
import Derived.Shelf.Strconv.ParseUint10
import Derived.Shelf.Strconv.ParseUint10Empty
import Derived.Shelf.Strconv.ParseUint10Any
import Derived.Shelf.Strconv.ParseInt10
import Derived.Shelf.Strconv.AtoiLong
import Derived.Shelf.Strconv.AtoiInnerAll
import Derived.Shelf.Strconv.RangeError
import Derived.Shelf.Strconv.ToErrorRange
import Derived.Shelf.Strconv.AtoiAll
import Derived.Shelf.Strconv.ErrVarAll
import Derived.Shelf.Strings.Search1
import Derived.Shelf.Strings.Search2
import Derived.Shelf.Strings.Search3
import Derived.Shelf.Strings.Count
import Derived.Shelf.Strings.Shaped
import Derived.Shelf.Strings.Split
import Derived.Shelf.Unicode.DecodeSlow
import Derived.Shelf.Strings.BuilderCap
import Derived.Shelf.Slices.Turned
import Derived.Ground.Names2Prog
import Derived.Shelf.Slices.Clone
import Derived.Test.YtcmldpiicnobnaaGreatDoorProg
set_option linter.all false
open Go.Proofs.YtcmldpiicnobnaaGreatDoor
open Go.Proofs.Tryz
namespace Go.Proofs
open Go.Shelf
def Tryz.lays169_ren:Go.Shelf.Ren:=⟨λ|169=>23|n=>n,λ|70=>57|9=>9|0=>0|72=>59|37=>43|127=>106|3=>3|5=>5|n=>n,λ|n=>n⟩
def Tryz.lays169:Go.Proofs.Lays.n169 prog Tryz.lays169_ren:={
 mixed:=by kernel_rfl
 f169:=func23.trans (If some (by kernel_rfl))
 t0:=underlying0
 a0:=Tryz.isAgg0
 z0:=Tryz.sizeOf0
 v0:=Tryz.zeroValue0
 t3:=underlying3
 a3:=Tryz.isAgg3
 z3:=Tryz.sizeOf3
 v3:=Tryz.zeroValue3
 t9:=underlying9
 a9:=Tryz.isAgg9
 z9:=Tryz.sizeOf9
 v9:=Tryz.zeroValue9
 t37:=underlying43
 a37:=Tryz.isAgg43
 z37:=Tryz.sizeOf43
 v37:=Tryz.zeroValue43
 t70:=underlying57
 a70:=Tryz.isAgg57
 z70:=Tryz.sizeOf57
 v70:=Tryz.zeroValue57
 t72:=underlying59
 a72:=Tryz.isAgg59
 z72:=Tryz.sizeOf59
 v72:=Tryz.zeroValue59
 t127:=underlying106
 a127:=Tryz.isAgg106
 z127:=Tryz.sizeOf106
 v127:=Tryz.zeroValue106}
def Tryz.Builder_Extra_169:Builder.Extra prog Tryz.lays169_ren:={
 sizeBuilder:=by kernel_rfl
 liesBuilder:=by kernel_rfl
 t5:=underlying5
 a5:=Tryz.isAgg5
 z5:=Tryz.sizeOf5
 v5:=Tryz.zeroValue5
 infoByte:=by kernel_rfl
 cellsByte:=by kernel_rfl
 sizeByte:=by kernel_rfl
 neB5:=by decide}
open Go.RowKit in
def Tryz.Builder_String_any(B b:Nat)(l:List UInt8)(w:World)(h:Lib.IsBuilder 59 5 B b (Lib.byteCells l) w)(hBw:B<=w.heap.size):
  Calls prog 23 #[.pointer (some ⟨b,0,none⟩)] w λ e w'=>e= .returned (.string ⟨l.toArray⟩)/\Below B w w':=Any.Builder_String_any Tryz.lays169 Tryz.Builder_Extra_169 B b l w h hBw
def Tryz.lays156_ren:Go.Shelf.Ren:=⟨λ|156=>20|165=>49|166=>19|169=>23|240=>48|241=>90|276=>89|277=>123|n=>n,λ|31=>60|9=>9|3=>3|4=>4|0=>0|20=>20|72=>59|76=>63|70=>57|37=>43|75=>62|127=>106|164=>153|5=>5|80=>73|n=>n,λ|n=>n⟩
def Tryz.lays156:Go.Proofs.Lays.n156 prog Tryz.lays156_ren:={
 mixed:=by kernel_rfl
 f156:=func20.trans (If some (by kernel_rfl))
 f165:=func49.trans (If some (by kernel_rfl))
 f166:=func19.trans (If some (by kernel_rfl))
 f169:=func23.trans (If some (by kernel_rfl))
 f240:=func48.trans (If some (by kernel_rfl))
 f241:=func90.trans (If some (by kernel_rfl))
 f276:=func89.trans (If some (by kernel_rfl))
 f277:=func123.trans (If some (by kernel_rfl))
 t0:=underlying0
 a0:=Tryz.isAgg0
 z0:=Tryz.sizeOf0
 v0:=Tryz.zeroValue0
 t3:=underlying3
 a3:=Tryz.isAgg3
 z3:=Tryz.sizeOf3
 v3:=Tryz.zeroValue3
 t4:=underlying4
 a4:=Tryz.isAgg4
 z4:=Tryz.sizeOf4
 v4:=Tryz.zeroValue4
 t9:=underlying9
 a9:=Tryz.isAgg9
 z9:=Tryz.sizeOf9
 v9:=Tryz.zeroValue9
 t20:=underlying20
 a20:=Tryz.isAgg20
 z20:=Tryz.sizeOf20
 v20:=Tryz.zeroValue20
 t31:=underlying60
 a31:=Tryz.isAgg60
 z31:=Tryz.sizeOf60
 v31:=Tryz.zeroValue60
 t37:=underlying43
 a37:=Tryz.isAgg43
 z37:=Tryz.sizeOf43
 v37:=Tryz.zeroValue43
 t70:=underlying57
 a70:=Tryz.isAgg57
 z70:=Tryz.sizeOf57
 v70:=Tryz.zeroValue57
 t72:=underlying59
 a72:=Tryz.isAgg59
 z72:=Tryz.sizeOf59
 v72:=Tryz.zeroValue59
 t75:=underlying62
 a75:=Tryz.isAgg62
 z75:=Tryz.sizeOf62
 v75:=Tryz.zeroValue62
 t76:=underlying63
 a76:=Tryz.isAgg63
 z76:=Tryz.sizeOf63
 v76:=Tryz.zeroValue63
 t127:=underlying106
 a127:=Tryz.isAgg106
 z127:=Tryz.sizeOf106
 v127:=Tryz.zeroValue106
 t164:=underlying153
 a164:=Tryz.isAgg153
 z164:=Tryz.sizeOf153
 v164:=Tryz.zeroValue153}
def Tryz.Builder_Extra_156:Builder.Extra prog Tryz.lays156_ren:={
 sizeBuilder:=by kernel_rfl
 liesBuilder:=by kernel_rfl
 t5:=underlying5
 a5:=Tryz.isAgg5
 z5:=Tryz.sizeOf5
 v5:=Tryz.zeroValue5
 infoByte:=by kernel_rfl
 cellsByte:=by kernel_rfl
 sizeByte:=by kernel_rfl
 neB5:=by decide}
open Go.RowKit in
def Tryz.strings_Join(bk o c:Nat)(xs:List ByteArray)(sep:ByteArray)(w:World)(hcells:∀ (j:Nat) x,xs[j]? =some x->w.cell? ⟨bk,o+j,none⟩=some (.string x))(hbk:bk<w.heap.size)(hN:xs.length<=140737488355328)(hcap:xs.length<=c)(hlen:(Lib.join (xs.map (·.data.toList)) sep.data.toList).length<=140737488355328):
  Calls prog 20 #[.slice (some ⟨bk,o,none⟩) xs.length c,.string sep] w λ e w'=>e= .returned (.string ⟨(Lib.join (xs.map (·.data.toList)) sep.data.toList).toArray⟩)/\Below w.heap.size w w':=Any.strings_Join Tryz.lays156 Tryz.Builder_Extra_156 bk o c xs sep w hcells hbk hN hcap hlen
def Tryz.lays172_ren:Go.Shelf.Ren:=⟨λ|172=>57|244=>100|245=>101|247=>138|279=>139|280=>140|281=>141|282=>142|287=>179|316=>180|171=>21|205=>181|321=>199|322=>200|243=>50|246=>91|283=>124|284=>125|285=>126|286=>127|129=>164|317=>163|318=>165|319=>166|320=>167|337=>193|338=>194|n=>n,λ|9=>9|3=>3|75=>62|76=>63|4=>4|5=>5|167=>202|37=>43|0=>0|85=>203|2=>2|168=>205|53=>190|175=>240|46=>108|210=>244|127=>106|145=>278|143=>276|21=>21|171=>189|173=>193|212=>231|51=>104|20=>20|213=>232|232=>287|233=>288|80=>73|n=>n,λ|15=>2|16=>3|17=>1|18=>6|19=>7|n=>n⟩
def Tryz.laysM246_ren:Go.Shelf.Ren:=⟨λ|246=>91|283=>124|284=>125|285=>126|286=>127|129=>164|317=>163|318=>165|319=>166|320=>167|337=>193|338=>194|n=>n,λ|2=>2|3=>3|9=>9|4=>4|171=>189|0=>0|53=>190|37=>43|5=>5|173=>193|212=>231|51=>104|20=>20|213=>232|46=>108|232=>287|233=>288|n=>n,λ|17=>1|18=>6|19=>7|n=>n⟩
def Tryz.laysM243_ren:Go.Shelf.Ren:=⟨λ|243=>50|246=>91|283=>124|284=>125|285=>126|286=>127|129=>164|317=>163|318=>165|319=>166|320=>167|337=>193|338=>194|n=>n,λ|3=>3|9=>9|2=>2|4=>4|171=>189|0=>0|53=>190|37=>43|5=>5|173=>193|212=>231|51=>104|20=>20|213=>232|46=>108|232=>287|233=>288|n=>n,λ|17=>1|18=>6|19=>7|n=>n⟩
def Tryz.laysM171_ren:Go.Shelf.Ren:=⟨λ|171=>21|243=>50|246=>91|283=>124|284=>125|285=>126|286=>127|129=>164|317=>163|318=>165|319=>166|320=>167|337=>193|338=>194|n=>n,λ|3=>3|9=>9|2=>2|4=>4|171=>189|0=>0|53=>190|37=>43|5=>5|173=>193|212=>231|51=>104|20=>20|213=>232|46=>108|232=>287|233=>288|n=>n,λ|17=>1|18=>6|19=>7|n=>n⟩
def Tryz.laysM171:Go.Proofs.LaysM.n171 prog Tryz.laysM171_ren:={
 mixed:=by kernel_rfl
 f129:=func164.trans (If some (by kernel_rfl))
 f171:=func21.trans (If some (by kernel_rfl))
 f243:=func50.trans (If some (by kernel_rfl))
 f246:=func91.trans (If some (by kernel_rfl))
 f283:=func124.trans (If some (by kernel_rfl))
 f284:=func125.trans (If some (by kernel_rfl))
 f285:=func126.trans (If some (by kernel_rfl))
 f286:=func127.trans (If some (by kernel_rfl))
 f317:=func163.trans (If some (by kernel_rfl))
 f318:=func165.trans (If some (by kernel_rfl))
 f319:=func166.trans (If some (by kernel_rfl))
 f320:=func167.trans (If some (by kernel_rfl))
 f337:=func193.trans (If some (by kernel_rfl))
 f338:=func194.trans (If some (by kernel_rfl))
 t0:=underlying0
 a0:=Tryz.isAgg0
 z0:=Tryz.sizeOf0
 v0:=Tryz.zeroValue0
 t2:=underlying2
 a2:=Tryz.isAgg2
 z2:=Tryz.sizeOf2
 v2:=Tryz.zeroValue2
 t3:=underlying3
 a3:=Tryz.isAgg3
 z3:=Tryz.sizeOf3
 v3:=Tryz.zeroValue3
 t4:=underlying4
 a4:=Tryz.isAgg4
 z4:=Tryz.sizeOf4
 v4:=Tryz.zeroValue4
 t5:=underlying5
 a5:=Tryz.isAgg5
 z5:=Tryz.sizeOf5
 v5:=Tryz.zeroValue5
 t9:=underlying9
 a9:=Tryz.isAgg9
 z9:=Tryz.sizeOf9
 v9:=Tryz.zeroValue9
 t20:=underlying20
 a20:=Tryz.isAgg20
 z20:=Tryz.sizeOf20
 v20:=Tryz.zeroValue20
 t37:=underlying43
 a37:=Tryz.isAgg43
 z37:=Tryz.sizeOf43
 v37:=Tryz.zeroValue43
 t46:=underlying108
 a46:=Tryz.isAgg108
 z46:=Tryz.sizeOf108
 v46:=Tryz.zeroValue108
 t51:=underlying104
 a51:=Tryz.isAgg104
 z51:=Tryz.sizeOf104
 v51:=Tryz.zeroValue104
 t53:=underlying190
 a53:=Tryz.isAgg190
 z53:=Tryz.sizeOf190
 v53:=Tryz.zeroValue190
 t171:=underlying189
 a171:=Tryz.isAgg189
 z171:=Tryz.sizeOf189
 v171:=Tryz.zeroValue189
 t173:=underlying193
 a173:=Tryz.isAgg193
 z173:=Tryz.sizeOf193
 v173:=Tryz.zeroValue193
 t212:=underlying231
 a212:=Tryz.isAgg231
 z212:=Tryz.sizeOf231
 v212:=Tryz.zeroValue231
 t213:=underlying232
 a213:=Tryz.isAgg232
 z213:=Tryz.sizeOf232
 t232:=underlying287
 a232:=Tryz.isAgg287
 z232:=Tryz.sizeOf287
 v232:=Tryz.zeroValue287
 t233:=underlying288
 a233:=Tryz.isAgg288
 z233:=Tryz.sizeOf288
 v233:=Tryz.zeroValue288
 g17:=by kernel_rfl
 g18:=by kernel_rfl
 g19:=by kernel_rfl
 i0:=by kernel_rfl
 i2:=by kernel_rfl
 i3:=by kernel_rfl
 i4:=by kernel_rfl
 i5:=by kernel_rfl
 i9:=by kernel_rfl
 i20:=by kernel_rfl
 i37:=by kernel_rfl
 i46:=by kernel_rfl
 i51:=by kernel_rfl
 i53:=by kernel_rfl
 i171:=by kernel_rfl
 i173:=by kernel_rfl
 i212:=by kernel_rfl
 i232:=by kernel_rfl
 i233:=by kernel_rfl
 m17:=by kernel_rfl
 m18:=by kernel_rfl
 m19:=by kernel_rfl}
open Go.RowKit Go.Sort Go.Lib in
def Tryz.strconv_Itoa(n : Int)(h0 : -9223372036854775808 ≤ n)(h1 : n ≤ 9223372036854775807)(w : World)(htab : Lib.TabIs prog w "internal/strconv.uint64pow10" .u64 Lib.pow10Tab) :
  Calls prog 21 #[.int .i64 n] w λ e w'=>e= .returned (.string ⟨(Lib.itoa n).toArray⟩)/\∃ k os,w'=grow (w.drewN k) os:=Any.strconv_Itoa Tryz.laysM171 n h0 h1 w htab
def Tryz.laysC172_ren:Go.Shelf.Ren:=⟨λ|172=>57|244=>100|245=>101|247=>138|279=>139|280=>140|281=>141|282=>142|287=>179|316=>180|171=>21|205=>181|321=>199|322=>200|243=>50|246=>91|283=>124|284=>125|285=>126|286=>127|129=>164|317=>163|318=>165|319=>166|320=>167|337=>193|338=>194|n=>n,λ|9=>9|3=>3|75=>62|76=>63|4=>4|5=>5|167=>202|37=>43|0=>0|85=>203|2=>2|168=>205|53=>190|175=>240|46=>108|210=>244|127=>106|145=>278|143=>276|21=>21|171=>189|173=>193|212=>231|51=>104|20=>20|213=>232|232=>287|233=>288|80=>73|n=>n,λ|15=>2|16=>3|17=>1|18=>6|19=>7|n=>n⟩
def Tryz.laysC172:Go.Proofs.LaysC.n172 prog Tryz.laysC172_ren:={
 mixed:=by kernel_rfl
 f129:=func164.trans (If some (by kernel_rfl))
 f171:=func21.trans (If some (by kernel_rfl))
 f172:=func57.trans (If some (by kernel_rfl))
 f205:=func181.trans (If some (by kernel_rfl))
 f243:=func50.trans (If some (by kernel_rfl))
 f244:=func100.trans (If some (by kernel_rfl))
 f245:=func101.trans (If some (by kernel_rfl))
 f246:=func91.trans (If some (by kernel_rfl))
 f247:=func138.trans (If some (by kernel_rfl))
 f279:=func139.trans (If some (by kernel_rfl))
 f280:=func140.trans (If some (by kernel_rfl))
 f281:=func141.trans (If some (by kernel_rfl))
 f282:=func142.trans (If some (by kernel_rfl))
 f283:=func124.trans (If some (by kernel_rfl))
 f284:=func125.trans (If some (by kernel_rfl))
 f285:=func126.trans (If some (by kernel_rfl))
 f286:=func127.trans (If some (by kernel_rfl))
 f287:=func179.trans (If some (by kernel_rfl))
 f316:=func180.trans (If some (by kernel_rfl))
 f317:=func163.trans (If some (by kernel_rfl))
 f318:=func165.trans (If some (by kernel_rfl))
 f319:=func166.trans (If some (by kernel_rfl))
 f320:=func167.trans (If some (by kernel_rfl))
 f321:=func199.trans (If some (by kernel_rfl))
 f322:=func200.trans (If some (by kernel_rfl))
 f337:=func193.trans (If some (by kernel_rfl))
 f338:=func194.trans (If some (by kernel_rfl))
 t0:=underlying0
 a0:=Tryz.isAgg0
 z0:=Tryz.sizeOf0
 v0:=Tryz.zeroValue0
 t2:=underlying2
 a2:=Tryz.isAgg2
 z2:=Tryz.sizeOf2
 v2:=Tryz.zeroValue2
 t3:=underlying3
 a3:=Tryz.isAgg3
 z3:=Tryz.sizeOf3
 v3:=Tryz.zeroValue3
 t4:=underlying4
 a4:=Tryz.isAgg4
 z4:=Tryz.sizeOf4
 v4:=Tryz.zeroValue4
 t5:=underlying5
 a5:=Tryz.isAgg5
 z5:=Tryz.sizeOf5
 v5:=Tryz.zeroValue5
 t9:=underlying9
 a9:=Tryz.isAgg9
 z9:=Tryz.sizeOf9
 v9:=Tryz.zeroValue9
 t20:=underlying20
 a20:=Tryz.isAgg20
 z20:=Tryz.sizeOf20
 v20:=Tryz.zeroValue20
 t21:=underlying21
 a21:=Tryz.isAgg21
 z21:=Tryz.sizeOf21
 v21:=Tryz.zeroValue21
 t37:=underlying43
 a37:=Tryz.isAgg43
 z37:=Tryz.sizeOf43
 v37:=Tryz.zeroValue43
 t46:=underlying108
 a46:=Tryz.isAgg108
 z46:=Tryz.sizeOf108
 v46:=Tryz.zeroValue108
 t51:=underlying104
 a51:=Tryz.isAgg104
 z51:=Tryz.sizeOf104
 v51:=Tryz.zeroValue104
 t53:=underlying190
 a53:=Tryz.isAgg190
 z53:=Tryz.sizeOf190
 v53:=Tryz.zeroValue190
 t75:=underlying62
 a75:=Tryz.isAgg62
 z75:=Tryz.sizeOf62
 v75:=Tryz.zeroValue62
 t76:=underlying63
 a76:=Tryz.isAgg63
 z76:=Tryz.sizeOf63
 v76:=Tryz.zeroValue63
 t85:=underlying203
 a85:=Tryz.isAgg203
 z85:=Tryz.sizeOf203
 v85:=Tryz.zeroValue203
 t127:=underlying106
 a127:=Tryz.isAgg106
 z127:=Tryz.sizeOf106
 v127:=Tryz.zeroValue106
 t143:=underlying276
 a143:=Tryz.isAgg276
 z143:=Tryz.sizeOf276
 v143:=Tryz.zeroValue276
 t145:=underlying278
 a145:=Tryz.isAgg278
 z145:=Tryz.sizeOf278
 v145:=Tryz.zeroValue278
 t167:=underlying202
 a167:=Tryz.isAgg202
 z167:=Tryz.sizeOf202
 v167:=Tryz.zeroValue202
 t168:=underlying205
 a168:=Tryz.isAgg205
 z168:=Tryz.sizeOf205
 v168:=Tryz.zeroValue205
 t171:=underlying189
 a171:=Tryz.isAgg189
 z171:=Tryz.sizeOf189
 v171:=Tryz.zeroValue189
 t173:=underlying193
 a173:=Tryz.isAgg193
 z173:=Tryz.sizeOf193
 v173:=Tryz.zeroValue193
 t175:=underlying240
 a175:=Tryz.isAgg240
 z175:=Tryz.sizeOf240
 v175:=Tryz.zeroValue240
 t210:=underlying244
 a210:=Tryz.isAgg244
 z210:=Tryz.sizeOf244
 v210:=Tryz.zeroValue244
 t212:=underlying231
 a212:=Tryz.isAgg231
 z212:=Tryz.sizeOf231
 v212:=Tryz.zeroValue231
 t213:=underlying232
 a213:=Tryz.isAgg232
 z213:=Tryz.sizeOf232
 t232:=underlying287
 a232:=Tryz.isAgg287
 z232:=Tryz.sizeOf287
 v232:=Tryz.zeroValue287
 t233:=underlying288
 a233:=Tryz.isAgg288
 z233:=Tryz.sizeOf288
 v233:=Tryz.zeroValue288
 g15:=by kernel_rfl
 g16:=by kernel_rfl
 g17:=by kernel_rfl
 g18:=by kernel_rfl
 g19:=by kernel_rfl
 t80:=underlying73
 a80:=Tryz.isAgg73
 z80:=Tryz.sizeOf73
 v80:=Tryz.zeroValue73
 i0:=by kernel_rfl
 i2:=by kernel_rfl
 i3:=by kernel_rfl
 i4:=by kernel_rfl
 i5:=by kernel_rfl
 i9:=by kernel_rfl
 i20:=by kernel_rfl
 i21:=by kernel_rfl
 i37:=by kernel_rfl
 i46:=by kernel_rfl
 i51:=by kernel_rfl
 i53:=by kernel_rfl
 i75:=by kernel_rfl
 i76:=by kernel_rfl
 i80:=by kernel_rfl
 i85:=by kernel_rfl
 i127:=by kernel_rfl
 i143:=by kernel_rfl
 i145:=by kernel_rfl
 i167:=by kernel_rfl
 i168:=by kernel_rfl
 i171:=by kernel_rfl
 i173:=by kernel_rfl
 i175:=by kernel_rfl
 i210:=by kernel_rfl
 i212:=by kernel_rfl
 i232:=by kernel_rfl
 i233:=by kernel_rfl
 m15:=by kernel_rfl
 m16:=by kernel_rfl
 m17:=by kernel_rfl
 m18:=by kernel_rfl
 m19:=by kernel_rfl
 c0:=by kernel_rfl
 c2:=by kernel_rfl
 c3:=by kernel_rfl
 c4:=by kernel_rfl
 c5:=by kernel_rfl
 c9:=by kernel_rfl
 c20:=by kernel_rfl
 c21:=by kernel_rfl
 c37:=by kernel_rfl
 c46:=by kernel_rfl
 c51:=by kernel_rfl
 c53:=by kernel_rfl
 c75:=by kernel_rfl
 c76:=by kernel_rfl
 c80:=by kernel_rfl
 c85:=by kernel_rfl
 c127:=by kernel_rfl
 c143:=by kernel_rfl
 c145:=by kernel_rfl
 c167:=by kernel_rfl
 c168:=by kernel_rfl
 c171:=by kernel_rfl
 c173:=by kernel_rfl
 c175:=by kernel_rfl
 c210:=by kernel_rfl
 c212:=by kernel_rfl
 c213:=by kernel_rfl
 c232:=by kernel_rfl
 c233:=by kernel_rfl}
open Go.RowKit in
def Tryz.strconv_Atoi_ok(s:ByteArray)(hmax:s.size<=9223372036854775806)(v:Int)(h:Lib.atoiAll s.data.toList= .ok v)(w:World):
  Calls prog 57 #[.string s] w λ e w'=>e= .returned (.tuple #[.int .i64 v,.nilIface])/\(w'=w\/∃ t,w'=Lib.bytesWorld w 5 t):=Any.strconv_Atoi_ok Tryz.laysC172 s hmax v h w
open Go.RowKit in
def Tryz.strconv_Atoi_syntax_var(s : ByteArray)(hlim : s.size ≤ 281474976710656)(h : Lib.atoiAll s.data.toList = Lib.NumEnd.syntax)(tp : TypeId)(p : Value)(w : World)(hvar : w.var? prog "strconv.ErrSyntax" = some #[.iface tp p]) :
  Calls prog 57 #[.string s] w λ e w'=>∃ N,e= .returned (.tuple #[.int .i64 0,.iface 205 (.pointer (some ⟨N,0,none⟩))])/\w.heap.size<=N/\w'.heap[N]? =some (.cells #[.string ⟨#[65,116,111,105]⟩,.string s,.iface tp p] 244 (0,0))/\Below w.heap.size w w':=Any.strconv_Atoi_syntax_var Tryz.laysC172 s hlim h tp p w hvar
open Go.RowKit in
def Tryz.strconv_Atoi_range_var(s : ByteArray)(hlim : s.size ≤ 281474976710656)(h : Lib.atoiAll s.data.toList = .range)(tp : TypeId)(p : Value)(w : World)(hvar : w.var? prog "strconv.ErrRange" = some #[.iface tp p]) :
  Calls prog 57 #[.string s] w λ e w'=>∃ N,e= .returned (.tuple #[.int .i64 (Lib.atoiSat s.data.toList),.iface 205 (.pointer (some ⟨N,0,none⟩))])/\w.heap.size<=N/\w'.heap[N]? =some (.cells #[.string ⟨#[65,116,111,105]⟩,.string s,.iface tp p] 244 (0,0))/\Below w.heap.size w w':=Any.strconv_Atoi_range_var Tryz.laysC172 s hlim h tp p w hvar
def Tryz.lays219_ren:Go.Shelf.Ren:=⟨λ|219=>137|217=>175|225=>176|224=>177|267=>178|266=>197|314=>198|n=>n,λ|9=>9|3=>3|4=>4|5=>5|46=>108|146=>273|51=>104|n=>n,λ|1=>0|n=>n⟩
def Tryz.laysM219_ren:Go.Shelf.Ren:=⟨λ|219=>137|217=>175|225=>176|224=>177|267=>178|266=>197|314=>198|n=>n,λ|9=>9|3=>3|4=>4|5=>5|46=>108|146=>273|51=>104|n=>n,λ|1=>0|n=>n⟩
def Tryz.laysM219:Go.Proofs.LaysM.n219 prog Tryz.laysM219_ren:={
 mixed:=by kernel_rfl
 f217:=func175.trans (If some (by kernel_rfl))
 f219:=func137.trans (If some (by kernel_rfl))
 f224:=func177.trans (If some (by kernel_rfl))
 f225:=func176.trans (If some (by kernel_rfl))
 f266:=func197.trans (If some (by kernel_rfl))
 f267:=func178.trans (If some (by kernel_rfl))
 f314:=func198.trans (If some (by kernel_rfl))
 t3:=underlying3
 a3:=Tryz.isAgg3
 z3:=Tryz.sizeOf3
 v3:=Tryz.zeroValue3
 t4:=underlying4
 a4:=Tryz.isAgg4
 z4:=Tryz.sizeOf4
 v4:=Tryz.zeroValue4
 t5:=underlying5
 a5:=Tryz.isAgg5
 z5:=Tryz.sizeOf5
 v5:=Tryz.zeroValue5
 t9:=underlying9
 a9:=Tryz.isAgg9
 z9:=Tryz.sizeOf9
 v9:=Tryz.zeroValue9
 t46:=underlying108
 a46:=Tryz.isAgg108
 z46:=Tryz.sizeOf108
 v46:=Tryz.zeroValue108
 t51:=underlying104
 a51:=Tryz.isAgg104
 z51:=Tryz.sizeOf104
 v51:=Tryz.zeroValue104
 t146:=underlying273
 a146:=Tryz.isAgg273
 z146:=Tryz.sizeOf273
 v146:=Tryz.zeroValue273
 g1:=by kernel_rfl
 i3:=by kernel_rfl
 i4:=by kernel_rfl
 i5:=by kernel_rfl
 i9:=by kernel_rfl
 i46:=by kernel_rfl
 i51:=by kernel_rfl
 i146:=by kernel_rfl
 m1:=by kernel_rfl
 s1_3:=λ w h=>Go.Proofs.cell_of_shapedOpen_int (zero:= #[.int .i64 0]) (t:=3) h (Pl (by kernel_rfl)) (by kernel_rfl) J (by kernel_rfl) (by kernel_rfl) underlying3}
def Tryz.lays221_ren:Go.Shelf.Ren:=⟨λ|221=>56|268=>97|138=>98|143=>99|195=>134|197=>135|218=>136|219=>137|260=>174|217=>175|225=>176|224=>177|267=>178|266=>197|314=>198|n=>n,λ|9=>9|3=>3|31=>60|4=>4|0=>0|105=>199|21=>21|5=>5|46=>108|119=>269|139=>272|138=>271|146=>273|51=>104|n=>n,λ|1=>0|3=>4|4=>5|n=>n⟩
def Tryz.lays146_ren:Go.Shelf.Ren:=⟨λ|146=>28|221=>56|268=>97|138=>98|143=>99|195=>134|197=>135|218=>136|219=>137|260=>174|217=>175|225=>176|224=>177|267=>178|266=>197|314=>198|n=>n,λ|9=>9|31=>60|3=>3|4=>4|0=>0|105=>199|21=>21|5=>5|46=>108|119=>269|139=>272|138=>271|146=>273|51=>104|n=>n,λ|1=>0|3=>4|4=>5|n=>n⟩
def Tryz.lays146:Go.Proofs.Lays.n146 prog Tryz.lays146_ren:={
 mixed:=by kernel_rfl
 f138:=func98.trans (If some (by kernel_rfl))
 f143:=func99.trans (If some (by kernel_rfl))
 f146:=func28.trans (If some (by kernel_rfl))
 f195:=func134.trans (If some (by kernel_rfl))
 f197:=func135.trans (If some (by kernel_rfl))
 f217:=func175.trans (If some (by kernel_rfl))
 f218:=func136.trans (If some (by kernel_rfl))
 f219:=func137.trans (If some (by kernel_rfl))
 f221:=func56.trans (If some (by kernel_rfl))
 f224:=func177.trans (If some (by kernel_rfl))
 f225:=func176.trans (If some (by kernel_rfl))
 f260:=func174.trans (If some (by kernel_rfl))
 f266:=func197.trans (If some (by kernel_rfl))
 f267:=func178.trans (If some (by kernel_rfl))
 f268:=func97.trans (If some (by kernel_rfl))
 f314:=func198.trans (If some (by kernel_rfl))
 t0:=underlying0
 a0:=Tryz.isAgg0
 z0:=Tryz.sizeOf0
 v0:=Tryz.zeroValue0
 t3:=underlying3
 a3:=Tryz.isAgg3
 z3:=Tryz.sizeOf3
 v3:=Tryz.zeroValue3
 t4:=underlying4
 a4:=Tryz.isAgg4
 z4:=Tryz.sizeOf4
 v4:=Tryz.zeroValue4
 t5:=underlying5
 a5:=Tryz.isAgg5
 z5:=Tryz.sizeOf5
 v5:=Tryz.zeroValue5
 t9:=underlying9
 a9:=Tryz.isAgg9
 z9:=Tryz.sizeOf9
 v9:=Tryz.zeroValue9
 t21:=underlying21
 a21:=Tryz.isAgg21
 z21:=Tryz.sizeOf21
 v21:=Tryz.zeroValue21
 t31:=underlying60
 a31:=Tryz.isAgg60
 z31:=Tryz.sizeOf60
 v31:=Tryz.zeroValue60
 t46:=underlying108
 a46:=Tryz.isAgg108
 z46:=Tryz.sizeOf108
 v46:=Tryz.zeroValue108
 t51:=underlying104
 a51:=Tryz.isAgg104
 z51:=Tryz.sizeOf104
 v51:=Tryz.zeroValue104
 t105:=underlying199
 a105:=Tryz.isAgg199
 z105:=Tryz.sizeOf199
 v105:=Tryz.zeroValue199
 t119:=underlying269
 a119:=Tryz.isAgg269
 z119:=Tryz.sizeOf269
 t138:=underlying271
 a138:=Tryz.isAgg271
 z138:=Tryz.sizeOf271
 v138:=Tryz.zeroValue271
 t139:=underlying272
 a139:=Tryz.isAgg272
 z139:=Tryz.sizeOf272
 v139:=Tryz.zeroValue272
 t146:=underlying273
 a146:=Tryz.isAgg273
 z146:=Tryz.sizeOf273
 v146:=Tryz.zeroValue273
 g1:=by kernel_rfl
 g3:=by kernel_rfl
 g4:=by kernel_rfl}
open Go.RowKit Go.Lib in
def Tryz.strings_Split(s sep:ByteArray)(m:Int)(w:World)(hs:s.size<4294967281)(hm:w.cell? ⟨0,0,none⟩=some (.int .i64 m))(h1:1<=sep.size):
  Calls prog 28 #[.string s,.string sep] w λ e w'=>
   e= .returned (.slice (some ⟨w.heap.size,0,none⟩) (Lib.countB s sep+1) (Lib.countB s sep+1))/\w'=w.alloc (.cells ((Lib.splitB sep 0 (Lib.countB s sep) s).map Value.string).toArray 9):=Any.strings_Split Tryz.lays146 (by kernel_rfl) s sep m w hs hm h1
def Tryz.laysNm216_ren:Go.Shelf.Ren:=⟨λ|16=>30|n=>n,λ|24=>60|9=>9|4=>4|n=>n,λ|n=>n⟩
def Tryz.laysNm216:Go.Proofs.Lays2.n16 prog Tryz.laysNm216_ren:={
 mixed:=by kernel_rfl
 f16:=func30.trans (If some (by kernel_rfl))
 t4:=underlying4
 a4:=Tryz.isAgg4
 z4:=Tryz.sizeOf4
 v4:=Tryz.zeroValue4
 t9:=underlying9
 a9:=Tryz.isAgg9
 z9:=Tryz.sizeOf9
 v9:=Tryz.zeroValue9
 t24:=underlying60
 a24:=Tryz.isAgg60
 z24:=Tryz.sizeOf60
 v24:=Tryz.zeroValue60
 i9:=by kernel_rfl}
open Go.RowKit Go.Lib in
def Tryz.slices_Clone_string(b off n c:Nat)(zs:List ByteArray)(w:World)(hz:n<=zs.length)(hbig:n*16<=140737488355328)(hc:∀ j,j<zs.length->w.cell? ⟨b,off+j,none⟩=some (.string (zs.getD j ByteArray.empty))):
  Calls prog 30 #[.slice (some ⟨b,off,none⟩) n c] w λ e w'=>∃ v',e= .returned v'/\w'.ownsRow w.heap.size 9 1 v' n ((zs.take n).map (Value.string))/\v'≠.slice none 0 0/\Below w.heap.size w w':=Any.slices_Clone_string Tryz.laysNm216 b off n c zs w hz hbig hc
open Go.RowKit Go.Lib in
def Tryz.slices_Clone_string_nil(n c:Nat)(w:World):
  Calls prog 30 #[.slice none n c] w λ e w'=>e= .returned (.slice none 0 0)/\w'=w:=Any.slices_Clone_string_nil Tryz.laysNm216 n c w
open Go.RowKit Go.Lib in
def Tryz.slices_Clone_string_zero(a:Addr)(c:Nat)(w:World):
  Calls prog 30 #[.slice (some a) 0 c] w λ e w'=>∃ v',e= .returned v'/\w'.ownsRow w.heap.size 9 1 v' 0 []/\v'≠.slice none 0 0/\Below w.heap.size w w':=Any.slices_Clone_string_zero Tryz.laysNm216 a c w
