/-
  DERIVED: THE SHELF's CONTRACTS AT THIS DUMP, IN PLAIN WORDS (tools/lay-plain.mjs out of 'TryzShelf.lean', which tools/lay-shelf.mjs wrote): THE SAME DECLARATIONS UNDER THE SAME NAMES: 'import', 'namespace', 'open', 'def', 'theorem' AND NOTHING ELSE: no command of the shelf's: FOR A HAND-IN. Each laying: the table of numbers ('.._ren') and one theorem, a field a fact of the dump's own or the kernel's comparison; each contract: ONE APPLICATION.
-/
import Derived.Shelf.Small.Bits
import Derived.Shelf.Small.Strs
import Derived.Shelf.Strconv.Itoa0
import Derived.Shelf.Sort.Plain
import Derived.Shelf.Slices.In.SortNone
import Derived.Ground.SlsfProg
import Derived.Shelf.SlSortCmp.Insertion
import Derived.Shelf.SlSortCmp.SiftDown1
import Derived.Shelf.SlSortCmp.HeapSort1
import Derived.Shelf.SlSortCmp.Insertion1
import Derived.Shelf.SlSortCmp.Median1
import Derived.Shelf.SlSortCmp.Pivot1
import Derived.Shelf.SlSortCmp.ReverseRange1
import Derived.Shelf.SlSortCmp.PartialInsertion1
import Derived.Shelf.SlSortCmp.PartitionEqual1
import Derived.Shelf.SlSortCmp.Partition1
import Derived.Shelf.SlSortCmp.Pdq1
import Derived.Shelf.SlSortCmp.Whole1
import Derived.Shelf.SlSortCmp.NoneTotal
import Derived.Shelf.Bytes.SlEqualAll
import Derived.Shelf.Bytes.Small
import Derived.Test.YtecfgjdpghddgaaGreatProg
set_option linter.unusedVariables false
set_option linter.unusedSimpArgs false
set_option linter.unusedSectionVars false
namespace Go.Proofs
open Go.Shelf
def Tryz.lays106_ren : Go.Shelf.Ren := ⟨fun | 106 => 63 | 213 => 100 | 265 => 134 | n => n, fun | 9 => 9 | 3 => 3 | n => n, fun | n => n⟩
theorem Tryz.lays106 : Go.Proofs.Lays.n106 Tryz.prog Tryz.lays106_ren := {
  mixed := by kernel_rfl
  f106 := Tryz.func63.trans (congrArg some (by kernel_rfl))
  f213 := Tryz.func100.trans (congrArg some (by kernel_rfl))
  f265 := Tryz.func134.trans (congrArg some (by kernel_rfl))
  t3 := Tryz.underlying3
  a3 := Tryz.isAgg3
  z3 := Tryz.sizeOf3
  v3 := Tryz.zeroValue3
  t9 := Tryz.underlying9
  a9 := Tryz.isAgg9
  z9 := Tryz.sizeOf9
  v9 := Tryz.zeroValue9 }
open Go.RowKit in
theorem Tryz.strings_Compare (a b : ByteArray) (w : World) :
    Calls Tryz.prog 63 #[.string a, .string b] w fun e w' => e = .returned (.int .i64 (Lib.compareBytes a.data.toList b.data.toList)) ∧ w' = w := Any.strings_Compare Tryz.lays106 a b w
def Tryz.lays129_ren : Go.Shelf.Ren := ⟨fun | 129 => 97 | n => n, fun | 53 => 56 | 3 => 3 | 4 => 4 | 46 => 88 | 5 => 5 | 9 => 9 | n => n, fun | n => n⟩
theorem Tryz.lays129 : Go.Proofs.Lays.n129 Tryz.prog Tryz.lays129_ren := {
  mixed := by kernel_rfl
  f129 := Tryz.func97.trans (congrArg some (by kernel_rfl))
  t3 := Tryz.underlying3
  a3 := Tryz.isAgg3
  z3 := Tryz.sizeOf3
  v3 := Tryz.zeroValue3
  t4 := Tryz.underlying4
  a4 := Tryz.isAgg4
  z4 := Tryz.sizeOf4
  v4 := Tryz.zeroValue4
  t5 := Tryz.underlying5
  a5 := Tryz.isAgg5
  z5 := Tryz.sizeOf5
  v5 := Tryz.zeroValue5
  t9 := Tryz.underlying9
  a9 := Tryz.isAgg9
  z9 := Tryz.sizeOf9
  v9 := Tryz.zeroValue9
  t46 := Tryz.underlying88
  a46 := Tryz.isAgg88
  z46 := Tryz.sizeOf88
  v46 := Tryz.zeroValue88
  t53 := Tryz.underlying56
  a53 := Tryz.isAgg56
  z53 := Tryz.sizeOf56
  v53 := Tryz.zeroValue56 }
theorem Tryz.bits_Len64 (x : Int) (w : World) (h0 : 0 ≤ x) (h1 : x ≤ 18446744073709551615) :
    Calls Tryz.prog 97 #[.int .u64 x] w fun e w' => e = .returned (.int .i64 (Lib.bitLen x.toNat)) ∧ w' = w := Any.bits_Len64 Tryz.lays129 x w h0 h1
def Tryz.lays190_ren : Go.Shelf.Ren := ⟨fun | 190 => 32 | 125 => 59 | 258 => 58 | 128 => 96 | 129 => 97 | 302 => 87 | 303 => 88 | 304 => 89 | 305 => 90 | 306 => 91 | 307 => 92 | 308 => 93 | 309 => 94 | 310 => 95 | 333 => 120 | 329 => 121 | 330 => 122 | 334 => 123 | 335 => 124 | 336 => 125 | 344 => 145 | n => n, fun | 31 => 36 | 9 => 9 | 3 => 3 | 46 => 88 | 0 => 0 | 51 => 83 | 53 => 56 | 4 => 4 | 183 => 134 | 182 => 133 | 131 => 43 | 5 => 5 | 218 => 176 | 222 => 180 | 228 => 197 | 229 => 198 | n => n, fun | n => n⟩
theorem Tryz.lays190 : Go.Proofs.Lays.n190 Tryz.prog Tryz.lays190_ren := {
  mixed := by kernel_rfl
  f125 := Tryz.func59.trans (congrArg some (by kernel_rfl))
  f128 := Tryz.func96.trans (congrArg some (by kernel_rfl))
  f129 := Tryz.func97.trans (congrArg some (by kernel_rfl))
  f190 := Tryz.func32.trans (congrArg some (by kernel_rfl))
  f258 := Tryz.func58.trans (congrArg some (by kernel_rfl))
  f302 := Tryz.func87.trans (congrArg some (by kernel_rfl))
  f303 := Tryz.func88.trans (congrArg some (by kernel_rfl))
  f304 := Tryz.func89.trans (congrArg some (by kernel_rfl))
  f305 := Tryz.func90.trans (congrArg some (by kernel_rfl))
  f306 := Tryz.func91.trans (congrArg some (by kernel_rfl))
  f307 := Tryz.func92.trans (congrArg some (by kernel_rfl))
  f308 := Tryz.func93.trans (congrArg some (by kernel_rfl))
  f309 := Tryz.func94.trans (congrArg some (by kernel_rfl))
  f310 := Tryz.func95.trans (congrArg some (by kernel_rfl))
  f329 := Tryz.func121.trans (congrArg some (by kernel_rfl))
  f330 := Tryz.func122.trans (congrArg some (by kernel_rfl))
  f333 := Tryz.func120.trans (congrArg some (by kernel_rfl))
  f334 := Tryz.func123.trans (congrArg some (by kernel_rfl))
  f335 := Tryz.func124.trans (congrArg some (by kernel_rfl))
  f336 := Tryz.func125.trans (congrArg some (by kernel_rfl))
  f344 := Tryz.func145.trans (congrArg some (by kernel_rfl))
  t0 := Tryz.underlying0
  a0 := Tryz.isAgg0
  z0 := Tryz.sizeOf0
  v0 := Tryz.zeroValue0
  t3 := Tryz.underlying3
  a3 := Tryz.isAgg3
  z3 := Tryz.sizeOf3
  v3 := Tryz.zeroValue3
  t4 := Tryz.underlying4
  a4 := Tryz.isAgg4
  z4 := Tryz.sizeOf4
  v4 := Tryz.zeroValue4
  t5 := Tryz.underlying5
  a5 := Tryz.isAgg5
  z5 := Tryz.sizeOf5
  v5 := Tryz.zeroValue5
  t9 := Tryz.underlying9
  a9 := Tryz.isAgg9
  z9 := Tryz.sizeOf9
  v9 := Tryz.zeroValue9
  t31 := Tryz.underlying36
  a31 := Tryz.isAgg36
  z31 := Tryz.sizeOf36
  v31 := Tryz.zeroValue36
  t46 := Tryz.underlying88
  a46 := Tryz.isAgg88
  z46 := Tryz.sizeOf88
  v46 := Tryz.zeroValue88
  t51 := Tryz.underlying83
  a51 := Tryz.isAgg83
  z51 := Tryz.sizeOf83
  v51 := Tryz.zeroValue83
  t53 := Tryz.underlying56
  a53 := Tryz.isAgg56
  z53 := Tryz.sizeOf56
  v53 := Tryz.zeroValue56
  t131 := Tryz.underlying43
  a131 := Tryz.isAgg43
  z131 := Tryz.sizeOf43
  v131 := Tryz.zeroValue43
  t182 := Tryz.underlying133
  a182 := Tryz.isAgg133
  z182 := Tryz.sizeOf133
  v182 := Tryz.zeroValue133
  t183 := Tryz.underlying134
  a183 := Tryz.isAgg134
  z183 := Tryz.sizeOf134
  v183 := Tryz.zeroValue134
  t218 := Tryz.underlying176
  a218 := Tryz.isAgg176
  z218 := Tryz.sizeOf176
  v218 := Tryz.zeroValue176
  t222 := Tryz.underlying180
  a222 := Tryz.isAgg180
  z222 := Tryz.sizeOf180
  v222 := Tryz.zeroValue180
  t228 := Tryz.underlying197
  a228 := Tryz.isAgg197
  z228 := Tryz.sizeOf197
  v228 := Tryz.zeroValue197
  t229 := Tryz.underlying198
  a229 := Tryz.isAgg198
  z229 := Tryz.sizeOf198
  v229 := Tryz.zeroValue198 }
open Go.Sort Go.RowKit in
theorem Tryz.slices_Sort_string (blk off cap : Nat) (ss : List (List UInt8)) (w : World) (hH : Holds encStr w blk off ss.toArray) (hblk : blk < w.heap.size) (hsz : ss.length < 4611686018427387904) :
    Calls Tryz.prog 32 #[.slice (some ⟨blk, off, none⟩) ss.length cap] w fun e w' =>
      e = .returned (.tuple #[]) ∧ ∃ n os, w' = grow (putRow encStr (Sort.ahead w n) blk off (ss.mergeSort fun x y => decide (x ≤ y)).toArray) os := Any.slices_Sort_string Tryz.lays190 blk off cap ss w hH hblk hsz
open Go.RowKit Go.Sort in
theorem Tryz.slices_Sort_string_none (p : Option Addr) (cap : Nat) (w : World) :
    Calls Tryz.prog 32 #[.slice p 0 cap] w fun e w' => e = .returned (.tuple #[]) ∧ w' = w := Any.slices_Sort_string_none Tryz.lays190 p cap w
def Tryz.laysSlF6_f61_ren : Go.Shelf.Ren := ⟨fun | 6 => 61 | 15 => 59 | 14 => 99 | 28 => 96 | 29 => 97 | 20 => 126 | 21 => 127 | 22 => 128 | 23 => 129 | 24 => 130 | 25 => 131 | 26 => 132 | 27 => 133 | 46 => 146 | 47 => 121 | 48 => 122 | 49 => 147 | 50 => 148 | 57 => 154 | n => n, fun | 22 => 27 | 24 => 3 | 25 => 106 | 3 => 3 | 39 => 88 | 0 => 0 | 53 => 83 | 55 => 56 | 4 => 4 | 46 => 134 | 45 => 133 | 50 => 43 | 5 => 5 | 9 => 9 | 66 => 176 | 70 => 180 | 76 => 197 | 77 => 198 | n => n, fun | n => n⟩
theorem Tryz.laysSlF6_f61 : Go.Proofs.SlLaysF.n6 Tryz.prog Tryz.laysSlF6_f61_ren := {
  mixed := by kernel_rfl
  f6 := ⟨Tryz.f61.name, by decide, Tryz.func61.trans (congrArg some (by kernel_rfl))⟩
  f14 := ⟨Tryz.f99.name, by decide, Tryz.func99.trans (congrArg some (by kernel_rfl))⟩
  f15 := Tryz.func59.trans (congrArg some (by kernel_rfl))
  f20 := ⟨Tryz.f126.name, by decide, Tryz.func126.trans (congrArg some (by kernel_rfl))⟩
  f21 := ⟨Tryz.f127.name, by decide, Tryz.func127.trans (congrArg some (by kernel_rfl))⟩
  f22 := ⟨Tryz.f128.name, by decide, Tryz.func128.trans (congrArg some (by kernel_rfl))⟩
  f23 := ⟨Tryz.f129.name, by decide, Tryz.func129.trans (congrArg some (by kernel_rfl))⟩
  f24 := ⟨Tryz.f130.name, by decide, Tryz.func130.trans (congrArg some (by kernel_rfl))⟩
  f25 := ⟨Tryz.f131.name, by decide, Tryz.func131.trans (congrArg some (by kernel_rfl))⟩
  f26 := ⟨Tryz.f132.name, by decide, Tryz.func132.trans (congrArg some (by kernel_rfl))⟩
  f27 := ⟨Tryz.f133.name, by decide, Tryz.func133.trans (congrArg some (by kernel_rfl))⟩
  f28 := Tryz.func96.trans (congrArg some (by kernel_rfl))
  f29 := Tryz.func97.trans (congrArg some (by kernel_rfl))
  f46 := ⟨Tryz.f146.name, by decide, Tryz.func146.trans (congrArg some (by kernel_rfl))⟩
  f47 := Tryz.func121.trans (congrArg some (by kernel_rfl))
  f48 := Tryz.func122.trans (congrArg some (by kernel_rfl))
  f49 := ⟨Tryz.f147.name, by decide, Tryz.func147.trans (congrArg some (by kernel_rfl))⟩
  f50 := ⟨Tryz.f148.name, by decide, Tryz.func148.trans (congrArg some (by kernel_rfl))⟩
  f57 := ⟨Tryz.f154.name, by decide, Tryz.func154.trans (congrArg some (by kernel_rfl))⟩
  t0 := Tryz.underlying0
  a0 := Tryz.isAgg0
  z0 := Tryz.sizeOf0
  v0 := Tryz.zeroValue0
  t3 := Tryz.underlying3
  a3 := Tryz.isAgg3
  z3 := Tryz.sizeOf3
  v3 := Tryz.zeroValue3
  t4 := Tryz.underlying4
  a4 := Tryz.isAgg4
  z4 := Tryz.sizeOf4
  v4 := Tryz.zeroValue4
  t5 := Tryz.underlying5
  a5 := Tryz.isAgg5
  z5 := Tryz.sizeOf5
  v5 := Tryz.zeroValue5
  t9 := Tryz.underlying9
  a9 := Tryz.isAgg9
  z9 := Tryz.sizeOf9
  v9 := Tryz.zeroValue9
  t22 := Tryz.underlying27
  a22 := Tryz.isAgg27
  z22 := Tryz.sizeOf27
  v22 := Tryz.zeroValue27
  a24 := Tryz.isAgg3
  z24 := Tryz.sizeOf3
  t25 := Tryz.underlying106
  a25 := Tryz.isAgg106
  z25 := Tryz.sizeOf106
  v25 := Tryz.zeroValue106
  t39 := Tryz.underlying88
  a39 := Tryz.isAgg88
  z39 := Tryz.sizeOf88
  v39 := Tryz.zeroValue88
  t45 := Tryz.underlying133
  a45 := Tryz.isAgg133
  z45 := Tryz.sizeOf133
  v45 := Tryz.zeroValue133
  t46 := Tryz.underlying134
  a46 := Tryz.isAgg134
  z46 := Tryz.sizeOf134
  v46 := Tryz.zeroValue134
  t50 := Tryz.underlying43
  a50 := Tryz.isAgg43
  z50 := Tryz.sizeOf43
  v50 := Tryz.zeroValue43
  t53 := Tryz.underlying83
  a53 := Tryz.isAgg83
  z53 := Tryz.sizeOf83
  v53 := Tryz.zeroValue83
  t55 := Tryz.underlying56
  a55 := Tryz.isAgg56
  z55 := Tryz.sizeOf56
  v55 := Tryz.zeroValue56
  t66 := Tryz.underlying176
  a66 := Tryz.isAgg176
  z66 := Tryz.sizeOf176
  v66 := Tryz.zeroValue176
  t70 := Tryz.underlying180
  a70 := Tryz.isAgg180
  z70 := Tryz.sizeOf180
  v70 := Tryz.zeroValue180
  t76 := Tryz.underlying197
  a76 := Tryz.isAgg197
  z76 := Tryz.sizeOf197
  v76 := Tryz.zeroValue197
  t77 := Tryz.underlying198
  a77 := Tryz.isAgg198
  z77 := Tryz.sizeOf198
  v77 := Tryz.zeroValue198 }
open Go.RowKit Go.Lib Go.Sort in
theorem Tryz.slices_SortFunc {α : Type} [Inhabited α] (enc : α → Value) (h1 : OneCell enc) (cf : α → α → Int) (hO : SWO (ltOf cf)) (g : Nat) (cb : Array Value) (blk off cap : Nat) (d : Array α) (w : World) (eg : ∀ args w, (callFunc g args).run Tryz.prog w = .ok (.enter g args) w) (hcmp : CmpLays1 Tryz.prog g cb enc cf blk off d.size w) (hH : Holds enc w blk off d) (hblk : blk < w.heap.size) (hsz : d.size < 4611686018427387904) :
    Calls Tryz.prog 61 #[.slice (some ⟨blk, off, none⟩) d.size cap, .func (.func g) #[] cb] w fun e w' =>
      e = .returned (.tuple #[]) ∧ ∃ d' n os, PermIn 0 d.size d d' ∧ SortedIn (ltOf cf) 0 d.size d' ∧ w' = sortWorld enc w blk off n d' os := Any.slices_SortFunc Tryz.laysSlF6_f61 enc h1 cf hO g cb blk off cap d w eg hcmp hH hblk hsz
def Tryz.laysSlF06_f61_ren : Go.Shelf.Ren := ⟨fun | 6 => 61 | 15 => 59 | 14 => 99 | 28 => 96 | 29 => 97 | 20 => 126 | 21 => 127 | 22 => 128 | 23 => 129 | 24 => 130 | 25 => 131 | 26 => 132 | 27 => 133 | 46 => 146 | 47 => 121 | 48 => 122 | 49 => 147 | 50 => 148 | 57 => 154 | n => n, fun | 22 => 27 | 24 => 3 | 25 => 106 | 3 => 3 | 39 => 88 | 0 => 0 | 53 => 83 | 55 => 56 | 4 => 4 | 46 => 134 | 45 => 133 | 50 => 43 | 5 => 5 | 9 => 9 | 66 => 176 | 70 => 180 | 76 => 197 | 77 => 198 | n => n, fun | n => n⟩
theorem Tryz.laysSlF06_f61 : Go.Proofs.SlLaysF0.n6 Tryz.prog Tryz.laysSlF06_f61_ren := {
  mixed := by kernel_rfl
  f6 := ⟨Tryz.f61.name, by decide, Tryz.func61.trans (congrArg some (by kernel_rfl))⟩
  f14 := ⟨Tryz.f99.name, by decide, Tryz.func99.trans (congrArg some (by kernel_rfl))⟩
  f15 := Tryz.func59.trans (congrArg some (by kernel_rfl))
  f20 := ⟨Tryz.f126.name, by decide, Tryz.func126.trans (congrArg some (by kernel_rfl))⟩
  f21 := ⟨Tryz.f127.name, by decide, Tryz.func127.trans (congrArg some (by kernel_rfl))⟩
  f22 := ⟨Tryz.f128.name, by decide, Tryz.func128.trans (congrArg some (by kernel_rfl))⟩
  f23 := ⟨Tryz.f129.name, by decide, Tryz.func129.trans (congrArg some (by kernel_rfl))⟩
  f24 := ⟨Tryz.f130.name, by decide, Tryz.func130.trans (congrArg some (by kernel_rfl))⟩
  f25 := ⟨Tryz.f131.name, by decide, Tryz.func131.trans (congrArg some (by kernel_rfl))⟩
  f26 := ⟨Tryz.f132.name, by decide, Tryz.func132.trans (congrArg some (by kernel_rfl))⟩
  f27 := ⟨Tryz.f133.name, by decide, Tryz.func133.trans (congrArg some (by kernel_rfl))⟩
  f28 := Tryz.func96.trans (congrArg some (by kernel_rfl))
  f29 := Tryz.func97.trans (congrArg some (by kernel_rfl))
  f46 := ⟨Tryz.f146.name, by decide, Tryz.func146.trans (congrArg some (by kernel_rfl))⟩
  f47 := Tryz.func121.trans (congrArg some (by kernel_rfl))
  f48 := Tryz.func122.trans (congrArg some (by kernel_rfl))
  f49 := ⟨Tryz.f147.name, by decide, Tryz.func147.trans (congrArg some (by kernel_rfl))⟩
  f50 := ⟨Tryz.f148.name, by decide, Tryz.func148.trans (congrArg some (by kernel_rfl))⟩
  f57 := ⟨Tryz.f154.name, by decide, Tryz.func154.trans (congrArg some (by kernel_rfl))⟩
  t0 := Tryz.underlying0
  a0 := Tryz.isAgg0
  z0 := Tryz.sizeOf0
  v0 := Tryz.zeroValue0
  t3 := Tryz.underlying3
  a3 := Tryz.isAgg3
  z3 := Tryz.sizeOf3
  v3 := Tryz.zeroValue3
  t4 := Tryz.underlying4
  a4 := Tryz.isAgg4
  z4 := Tryz.sizeOf4
  v4 := Tryz.zeroValue4
  t5 := Tryz.underlying5
  a5 := Tryz.isAgg5
  z5 := Tryz.sizeOf5
  v5 := Tryz.zeroValue5
  t9 := Tryz.underlying9
  a9 := Tryz.isAgg9
  z9 := Tryz.sizeOf9
  v9 := Tryz.zeroValue9
  t22 := Tryz.underlying27
  a22 := Tryz.isAgg27
  z22 := Tryz.sizeOf27
  v22 := Tryz.zeroValue27
  t25 := Tryz.underlying106
  a25 := Tryz.isAgg106
  z25 := Tryz.sizeOf106
  v25 := Tryz.zeroValue106
  t39 := Tryz.underlying88
  a39 := Tryz.isAgg88
  z39 := Tryz.sizeOf88
  v39 := Tryz.zeroValue88
  t45 := Tryz.underlying133
  a45 := Tryz.isAgg133
  z45 := Tryz.sizeOf133
  v45 := Tryz.zeroValue133
  t46 := Tryz.underlying134
  a46 := Tryz.isAgg134
  z46 := Tryz.sizeOf134
  v46 := Tryz.zeroValue134
  t50 := Tryz.underlying43
  a50 := Tryz.isAgg43
  z50 := Tryz.sizeOf43
  v50 := Tryz.zeroValue43
  t53 := Tryz.underlying83
  a53 := Tryz.isAgg83
  z53 := Tryz.sizeOf83
  v53 := Tryz.zeroValue83
  t55 := Tryz.underlying56
  a55 := Tryz.isAgg56
  z55 := Tryz.sizeOf56
  v55 := Tryz.zeroValue56
  t66 := Tryz.underlying176
  a66 := Tryz.isAgg176
  z66 := Tryz.sizeOf176
  v66 := Tryz.zeroValue176
  t70 := Tryz.underlying180
  a70 := Tryz.isAgg180
  z70 := Tryz.sizeOf180
  v70 := Tryz.zeroValue180
  t76 := Tryz.underlying197
  a76 := Tryz.isAgg197
  z76 := Tryz.sizeOf197
  v76 := Tryz.zeroValue197
  t77 := Tryz.underlying198
  a77 := Tryz.isAgg198
  z77 := Tryz.sizeOf198
  v77 := Tryz.zeroValue198 }
open Go.RowKit Go.Lib Go.Sort in
theorem Tryz.slices_SortFunc_none {α : Type} [Inhabited α] (p : Option Addr) (cap : Nat) (fv : Value) (w : World) :
    Calls Tryz.prog 61 #[.slice p 0 cap, fv] w fun e w' => e = .returned (.tuple #[]) ∧ w' = w := AnyF.slices_SortFunc_none Tryz.laysSlF06_f61 p cap fv w
end Go.Proofs
