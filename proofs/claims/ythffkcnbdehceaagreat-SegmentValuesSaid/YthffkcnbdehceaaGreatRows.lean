/-
  No cell of these rows narrows 'for every input' (looked for: loops, veiled, ifaces, maps, wideKeys, modest, calm, conditions, laid).
  DERIVED. THE GIVEN ROWS OF THIS SEAT. 6 by the template 'for every input the law returns true; each argument reads behind the call as it read before'; 0 by the template 'total and deterministic' (their statements: YthffkcnbdehceaaGreatTotals.lean).
  GIVEN WITH THE SEED: the statements are not yours to turn. If you find one false, say at which input.
  Laid BY PROGRAM, IN A SANDBOX (cutbox-rows.mjs): the forced cells as the released guide's own fill.sh prints them over the translation 4df2cbf89a6bdb1d… (all of the seat's roots in one cut). By AI agents, Wed Nov 11 2026. No macro, syntax, notation, axiom, sorry.
-/
import Derived.Test.YthffkcnbdehceaaGreatChecked
import GoSem.Claim
import GoSem.ClaimJoined
import GoSem.ClaimMapViews
import Derived.JoinedTies
import Derived.KernelRfl
namespace Go.Proofs.YthffkcnbdehceaaGreat
/- THE CELL 'sum', in the pinned program and in every row, IS THE sha256 OF THE DUMP (.gsa) THAT YthffkcnbdehceaaGreatProg.lean LOADS. Nothing in Lean hashes anything: it is a label: what it is worth is what the hold of that sum in a sandbox is worth. -/
noncomputable def Tryz.pinned : Pinned := { name := "ythffkcnbdehceaagreat", sum := "4df2cbf89a6bdb1de08ed142280d5d57c27099aa0a6cc285e7aa0f589cdf237e", checked := Tryz.checked }
namespace Rows
def none {H : Type} : Left H := { results := [], args := [] }

/-- 'corporalaw41.SegmentEncodes': WHATEVER THE INPUT: true; the input reads as it did. -/
def segmentEncodesSpec : ChangeSpec := { name := "segmentEncodes", fn := fun _ => fun
  | [d] => { results := [.lit (.bool true)], args := [d] }
  | _ => none }
def segmentEncodesRow : OpenClaim := { program := "ythffkcnbdehceaagreat", sum := "4df2cbf89a6bdb1de08ed142280d5d57c27099aa0a6cc285e7aa0f589cdf237e", func := "corpora/corporalaw41.SegmentEncodes", spec := "segmentEncodes", inPlace := ["internal/bytealg.abigen_runtime_cmpstring"], unfollowed := true, recurses := true, apart := false }
def SegmentEncodesSaid : Prop := segmentEncodesRow.holds Tryz.pinned (OpenSpec.ofChange segmentEncodesSpec)

/-- ITS FALSE NEIGHBOUR: 'it returns false'. Refute it at one input. -/
def segmentEncodesWrong : ChangeSpec := { name := "segmentEncodes", fn := fun _ => fun
  | [d] => { results := [.lit (.bool false)], args := [d] }
  | _ => none }
def SegmentEncodesWrongFalsely : Prop := segmentEncodesRow.holds Tryz.pinned (OpenSpec.ofChange segmentEncodesWrong)

/-- 'corporalaw41.SegmentRaw': WHATEVER THE INPUT: true; the input reads as it did. -/
def segmentRawSpec : ChangeSpec := { name := "segmentRaw", fn := fun _ => fun
  | [d1, d2] => { results := [.lit (.bool true)], args := [d1, d2] }
  | _ => none }
def segmentRawRow : OpenClaim := { program := "ythffkcnbdehceaagreat", sum := "4df2cbf89a6bdb1de08ed142280d5d57c27099aa0a6cc285e7aa0f589cdf237e", func := "corpora/corporalaw41.SegmentRaw", spec := "segmentRaw", inPlace := ["internal/bytealg.abigen_runtime_cmpstring"], unfollowed := true, recurses := true, apart := false }
def SegmentRawSaid : Prop := segmentRawRow.holds Tryz.pinned (OpenSpec.ofChange segmentRawSpec)

/-- ITS FALSE NEIGHBOUR: 'it returns false'. Refute it at one input. -/
def segmentRawWrong : ChangeSpec := { name := "segmentRaw", fn := fun _ => fun
  | [d1, d2] => { results := [.lit (.bool false)], args := [d1, d2] }
  | _ => none }
def SegmentRawWrongFalsely : Prop := segmentRawRow.holds Tryz.pinned (OpenSpec.ofChange segmentRawWrong)

/-- 'corporalaw41.SegmentDiffers': WHATEVER THE INPUT: true; the input reads as it did. -/
def segmentDiffersSpec : ChangeSpec := { name := "segmentDiffers", fn := fun _ => fun
  | [d1, d2] => { results := [.lit (.bool true)], args := [d1, d2] }
  | _ => none }
def segmentDiffersRow : OpenClaim := { program := "ythffkcnbdehceaagreat", sum := "4df2cbf89a6bdb1de08ed142280d5d57c27099aa0a6cc285e7aa0f589cdf237e", func := "corpora/corporalaw41.SegmentDiffers", spec := "segmentDiffers", inPlace := ["internal/bytealg.abigen_runtime_cmpstring"], unfollowed := true, recurses := true, apart := false }
def SegmentDiffersSaid : Prop := segmentDiffersRow.holds Tryz.pinned (OpenSpec.ofChange segmentDiffersSpec)

/-- ITS FALSE NEIGHBOUR: 'it returns false'. Refute it at one input. -/
def segmentDiffersWrong : ChangeSpec := { name := "segmentDiffers", fn := fun _ => fun
  | [d1, d2] => { results := [.lit (.bool false)], args := [d1, d2] }
  | _ => none }
def SegmentDiffersWrongFalsely : Prop := segmentDiffersRow.holds Tryz.pinned (OpenSpec.ofChange segmentDiffersWrong)

/-- 'corporalaw41.SegmentDamage': WHATEVER THE INPUT: true; the input reads as it did. -/
def segmentDamageSpec : ChangeSpec := { name := "segmentDamage", fn := fun _ => fun
  | [d1, d2, d3] => { results := [.lit (.bool true)], args := [d1, d2, d3] }
  | _ => none }
def segmentDamageRow : OpenClaim := { program := "ythffkcnbdehceaagreat", sum := "4df2cbf89a6bdb1de08ed142280d5d57c27099aa0a6cc285e7aa0f589cdf237e", func := "corpora/corporalaw41.SegmentDamage", spec := "segmentDamage", inPlace := ["internal/bytealg.abigen_runtime_cmpstring"], unfollowed := true, recurses := true, apart := false }
def SegmentDamageSaid : Prop := segmentDamageRow.holds Tryz.pinned (OpenSpec.ofChange segmentDamageSpec)

/-- ITS FALSE NEIGHBOUR: 'it returns false'. Refute it at one input. -/
def segmentDamageWrong : ChangeSpec := { name := "segmentDamage", fn := fun _ => fun
  | [d1, d2, d3] => { results := [.lit (.bool false)], args := [d1, d2, d3] }
  | _ => none }
def SegmentDamageWrongFalsely : Prop := segmentDamageRow.holds Tryz.pinned (OpenSpec.ofChange segmentDamageWrong)

/-- 'corporalaw41.SegmentBack': WHATEVER THE INPUT: true; the input reads as it did. -/
def segmentBackSpec : ChangeSpec := { name := "segmentBack", fn := fun _ => fun
  | [d] => { results := [.lit (.bool true)], args := [d] }
  | _ => none }
def segmentBackRow : OpenClaim := { program := "ythffkcnbdehceaagreat", sum := "4df2cbf89a6bdb1de08ed142280d5d57c27099aa0a6cc285e7aa0f589cdf237e", func := "corpora/corporalaw41.SegmentBack", spec := "segmentBack", inPlace := ["internal/bytealg.abigen_runtime_cmpstring"], unfollowed := true, recurses := true, apart := false }
def SegmentBackSaid : Prop := segmentBackRow.holds Tryz.pinned (OpenSpec.ofChange segmentBackSpec)

/-- ITS FALSE NEIGHBOUR: 'it returns false'. Refute it at one input. -/
def segmentBackWrong : ChangeSpec := { name := "segmentBack", fn := fun _ => fun
  | [d] => { results := [.lit (.bool false)], args := [d] }
  | _ => none }
def SegmentBackWrongFalsely : Prop := segmentBackRow.holds Tryz.pinned (OpenSpec.ofChange segmentBackWrong)

/-- 'corporalaw41.SegmentValues': WHATEVER THE INPUT: true; the input reads as it did. -/
def segmentValuesSpec : ChangeSpec := { name := "segmentValues", fn := fun _ => fun
  | [d1, d2, d3] => { results := [.lit (.bool true)], args := [d1, d2, d3] }
  | _ => none }
def segmentValuesRow : OpenClaim := { program := "ythffkcnbdehceaagreat", sum := "4df2cbf89a6bdb1de08ed142280d5d57c27099aa0a6cc285e7aa0f589cdf237e", func := "corpora/corporalaw41.SegmentValues", spec := "segmentValues", inPlace := ["internal/bytealg.abigen_runtime_cmpstring"], unfollowed := true, recurses := true, apart := false }
def SegmentValuesSaid : Prop := segmentValuesRow.holds Tryz.pinned (OpenSpec.ofChange segmentValuesSpec)

/-- ITS FALSE NEIGHBOUR: 'it returns false'. Refute it at one input. -/
def segmentValuesWrong : ChangeSpec := { name := "segmentValues", fn := fun _ => fun
  | [d1, d2, d3] => { results := [.lit (.bool false)], args := [d1, d2, d3] }
  | _ => none }
def SegmentValuesWrongFalsely : Prop := segmentValuesRow.holds Tryz.pinned (OpenSpec.ofChange segmentValuesWrong)

/- THE SECOND FORM. 'bulk': how many values and letters a reading holds, each counted each time it is reached (what is shared counts as often as it is met; a slice's spare places count too). A statement '..UptoSaid' is the law's where the arguments, and the package variables that the reading takes, are together of bulk at most 1048576: NARROWER than '..Said'. Prove '..Said' where nothing that the law and all that it calls make is longer than what came in: it says more and counts as full. Else prove '..UptoSaid'. A law counts once. -/
mutual
def uptoBulk {H : Type} : DataW H → Nat
  | .lit (.string bytes) => bytes.length + 1
  | .lit _ => 1
  | .nil => 1
  | .ptr d => uptoBulk d + 1
  | .slice elems spare => uptoBulkAll elems + uptoBulkAll spare + 1
  | .agg parts => uptoBulkAll parts + 1
  | .iface _ d => uptoBulk d + 1
  | .map entries => uptoBulkEntries entries + 1
  | .held _ => 1
def uptoBulkAll {H : Type} : List (DataW H) → Nat
  | [] => 0
  | d :: r => uptoBulk d + uptoBulkAll r
def uptoBulkEntries {H : Type} : List (Lit × DataW H) → Nat
  | [] => 0
  | x :: r => uptoBulkEntry x + uptoBulkEntries r
def uptoBulkEntry {H : Type} : Lit × DataW H → Nat
  | (.string bytes, d) => bytes.length + uptoBulk d + 1
  | (_, d) => uptoBulk d + 1
 end
def uptoSmall : (H : Type) → List (DataW H) → Bool := fun _ ds => decide (uptoBulkAll ds ≤ 1048576)
def OpenSpec.upto (s : _root_.Go.ChangeSpec) : _root_.Go.OpenSpec := { _root_.Go.OpenSpec.ofChange s with cond := some uptoSmall }

/-- 'corporalaw41.SegmentEncodes', WHERE WHAT IT READS IS OF BULK AT MOST 1048576: true; the input reads as it did. -/
def segmentEncodesUptoRow : OpenClaim := { program := "ythffkcnbdehceaagreat", sum := "4df2cbf89a6bdb1de08ed142280d5d57c27099aa0a6cc285e7aa0f589cdf237e", func := "corpora/corporalaw41.SegmentEncodes", spec := "segmentEncodes", inPlace := ["internal/bytealg.abigen_runtime_cmpstring"], unfollowed := true, recurses := true, apart := false, narrowed := true }
def SegmentEncodesUptoSaid : Prop := segmentEncodesUptoRow.holds Tryz.pinned (OpenSpec.upto segmentEncodesSpec)

/-- 'corporalaw41.SegmentRaw', WHERE WHAT IT READS IS OF BULK AT MOST 1048576: true; the input reads as it did. -/
def segmentRawUptoRow : OpenClaim := { program := "ythffkcnbdehceaagreat", sum := "4df2cbf89a6bdb1de08ed142280d5d57c27099aa0a6cc285e7aa0f589cdf237e", func := "corpora/corporalaw41.SegmentRaw", spec := "segmentRaw", inPlace := ["internal/bytealg.abigen_runtime_cmpstring"], unfollowed := true, recurses := true, apart := false, narrowed := true }
def SegmentRawUptoSaid : Prop := segmentRawUptoRow.holds Tryz.pinned (OpenSpec.upto segmentRawSpec)

/-- 'corporalaw41.SegmentDiffers', WHERE WHAT IT READS IS OF BULK AT MOST 1048576: true; the input reads as it did. -/
def segmentDiffersUptoRow : OpenClaim := { program := "ythffkcnbdehceaagreat", sum := "4df2cbf89a6bdb1de08ed142280d5d57c27099aa0a6cc285e7aa0f589cdf237e", func := "corpora/corporalaw41.SegmentDiffers", spec := "segmentDiffers", inPlace := ["internal/bytealg.abigen_runtime_cmpstring"], unfollowed := true, recurses := true, apart := false, narrowed := true }
def SegmentDiffersUptoSaid : Prop := segmentDiffersUptoRow.holds Tryz.pinned (OpenSpec.upto segmentDiffersSpec)

/-- 'corporalaw41.SegmentDamage', WHERE WHAT IT READS IS OF BULK AT MOST 1048576: true; the input reads as it did. -/
def segmentDamageUptoRow : OpenClaim := { program := "ythffkcnbdehceaagreat", sum := "4df2cbf89a6bdb1de08ed142280d5d57c27099aa0a6cc285e7aa0f589cdf237e", func := "corpora/corporalaw41.SegmentDamage", spec := "segmentDamage", inPlace := ["internal/bytealg.abigen_runtime_cmpstring"], unfollowed := true, recurses := true, apart := false, narrowed := true }
def SegmentDamageUptoSaid : Prop := segmentDamageUptoRow.holds Tryz.pinned (OpenSpec.upto segmentDamageSpec)

/-- 'corporalaw41.SegmentBack', WHERE WHAT IT READS IS OF BULK AT MOST 1048576: true; the input reads as it did. -/
def segmentBackUptoRow : OpenClaim := { program := "ythffkcnbdehceaagreat", sum := "4df2cbf89a6bdb1de08ed142280d5d57c27099aa0a6cc285e7aa0f589cdf237e", func := "corpora/corporalaw41.SegmentBack", spec := "segmentBack", inPlace := ["internal/bytealg.abigen_runtime_cmpstring"], unfollowed := true, recurses := true, apart := false, narrowed := true }
def SegmentBackUptoSaid : Prop := segmentBackUptoRow.holds Tryz.pinned (OpenSpec.upto segmentBackSpec)

/-- 'corporalaw41.SegmentValues', WHERE WHAT IT READS IS OF BULK AT MOST 1048576: true; the input reads as it did. -/
def segmentValuesUptoRow : OpenClaim := { program := "ythffkcnbdehceaagreat", sum := "4df2cbf89a6bdb1de08ed142280d5d57c27099aa0a6cc285e7aa0f589cdf237e", func := "corpora/corporalaw41.SegmentValues", spec := "segmentValues", inPlace := ["internal/bytealg.abigen_runtime_cmpstring"], unfollowed := true, recurses := true, apart := false, narrowed := true }
def SegmentValuesUptoSaid : Prop := segmentValuesUptoRow.holds Tryz.pinned (OpenSpec.upto segmentValuesSpec)

end Rows
end Go.Proofs.YthffkcnbdehceaaGreat
