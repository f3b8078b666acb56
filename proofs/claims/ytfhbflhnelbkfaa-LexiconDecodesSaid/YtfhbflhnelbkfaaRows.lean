/-
  No cell of these rows narrows 'for every input' (looked for: loops, veiled, ifaces, maps, wideKeys, modest, calm, conditions, laid).
  DERIVED. THE GIVEN ROWS OF THIS SEAT. 17 by the template 'for every input the law returns true; each argument reads behind the call as it read before'; 0 by the template 'total and deterministic' (their statements: YtfhbflhnelbkfaaTotals.lean).
  GIVEN WITH THE SEED: the statements are not yours to turn. If you find one false, say at which input.
  Laid BY PROGRAM, IN A SANDBOX (cutbox-rows.mjs): the forced cells as the released guide's own fill.sh prints them over the translation 223f7fc2594cd405… (all of the seat's roots in one cut). By AI agents, Wed Nov 11 2026. No macro, syntax, notation, axiom, sorry.
-/
import Derived.Test.YtfhbflhnelbkfaaChecked
import GoSem.Claim
import GoSem.ClaimJoined
import GoSem.ClaimMapViews
import Derived.JoinedTies
import Derived.KernelRfl
namespace Go.Proofs.Ytfhbflhnelbkfaa
/- THE CELL 'sum', in the pinned program and in every row, IS THE sha256 OF THE DUMP (.gsa) THAT YtfhbflhnelbkfaaProg.lean LOADS. Nothing in Lean hashes anything: it is a label: what it is worth is what the hold of that sum in a sandbox is worth. -/
noncomputable def Try.pinned : Pinned := { name := "ytfhbflhnelbkfaa", sum := "223f7fc2594cd405beb300dfeccbbc9a0865181cb096cbe435a764774781c5c1", checked := Try.checked }
namespace Rows
def none {H : Type} : Left H := { results := [], args := [] }

/-- 'corporalaw16.TokensBuilds': WHATEVER THE INPUT: true; the input reads as it did. -/
def tokensBuildsSpec : ChangeSpec := { name := "tokensBuilds", fn := fun _ => fun
  | [d] => { results := [.lit (.bool true)], args := [d] }
  | _ => none }
def tokensBuildsRow : OpenClaim := { program := "ytfhbflhnelbkfaa", sum := "223f7fc2594cd405beb300dfeccbbc9a0865181cb096cbe435a764774781c5c1", func := "corpora/corporalaw16.TokensBuilds", spec := "tokensBuilds", unfollowed := true, recurses := true, apart := false }
def TokensBuildsSaid : Prop := tokensBuildsRow.holds Try.pinned (OpenSpec.ofChange tokensBuildsSpec)

/-- ITS FALSE NEIGHBOUR: 'it returns false'. Refute it at one input. -/
def tokensBuildsWrong : ChangeSpec := { name := "tokensBuilds", fn := fun _ => fun
  | [d] => { results := [.lit (.bool false)], args := [d] }
  | _ => none }
def TokensBuildsWrongFalsely : Prop := tokensBuildsRow.holds Try.pinned (OpenSpec.ofChange tokensBuildsWrong)

/-- 'corporalaw16.TokensReads': WHATEVER THE INPUT: true; the input reads as it did. -/
def tokensReadsSpec : ChangeSpec := { name := "tokensReads", fn := fun _ => fun
  | [d1, d2] => { results := [.lit (.bool true)], args := [d1, d2] }
  | _ => none }
def tokensReadsRow : OpenClaim := { program := "ytfhbflhnelbkfaa", sum := "223f7fc2594cd405beb300dfeccbbc9a0865181cb096cbe435a764774781c5c1", func := "corpora/corporalaw16.TokensReads", spec := "tokensReads", unfollowed := true, recurses := true, apart := false }
def TokensReadsSaid : Prop := tokensReadsRow.holds Try.pinned (OpenSpec.ofChange tokensReadsSpec)

/-- ITS FALSE NEIGHBOUR: 'it returns false'. Refute it at one input. -/
def tokensReadsWrong : ChangeSpec := { name := "tokensReads", fn := fun _ => fun
  | [d1, d2] => { results := [.lit (.bool false)], args := [d1, d2] }
  | _ => none }
def TokensReadsWrongFalsely : Prop := tokensReadsRow.holds Try.pinned (OpenSpec.ofChange tokensReadsWrong)

/-- 'corporalaw16.TokensLimits': WHATEVER THE INPUT: true; the input reads as it did. -/
def tokensLimitsSpec : ChangeSpec := { name := "tokensLimits", fn := fun _ => fun
  | [d1, d2] => { results := [.lit (.bool true)], args := [d1, d2] }
  | _ => none }
def tokensLimitsRow : OpenClaim := { program := "ytfhbflhnelbkfaa", sum := "223f7fc2594cd405beb300dfeccbbc9a0865181cb096cbe435a764774781c5c1", func := "corpora/corporalaw16.TokensLimits", spec := "tokensLimits", unfollowed := true, recurses := true, apart := false }
def TokensLimitsSaid : Prop := tokensLimitsRow.holds Try.pinned (OpenSpec.ofChange tokensLimitsSpec)

/-- ITS FALSE NEIGHBOUR: 'it returns false'. Refute it at one input. -/
def tokensLimitsWrong : ChangeSpec := { name := "tokensLimits", fn := fun _ => fun
  | [d1, d2] => { results := [.lit (.bool false)], args := [d1, d2] }
  | _ => none }
def TokensLimitsWrongFalsely : Prop := tokensLimitsRow.holds Try.pinned (OpenSpec.ofChange tokensLimitsWrong)

/-- 'corporalaw16.TokensSlices': WHATEVER THE INPUT: true; the input reads as it did. -/
def tokensSlicesSpec : ChangeSpec := { name := "tokensSlices", fn := fun _ => fun
  | [d1, d2, d3] => { results := [.lit (.bool true)], args := [d1, d2, d3] }
  | _ => none }
def tokensSlicesRow : OpenClaim := { program := "ytfhbflhnelbkfaa", sum := "223f7fc2594cd405beb300dfeccbbc9a0865181cb096cbe435a764774781c5c1", func := "corpora/corporalaw16.TokensSlices", spec := "tokensSlices", unfollowed := true, recurses := true, apart := false }
def TokensSlicesSaid : Prop := tokensSlicesRow.holds Try.pinned (OpenSpec.ofChange tokensSlicesSpec)

/-- ITS FALSE NEIGHBOUR: 'it returns false'. Refute it at one input. -/
def tokensSlicesWrong : ChangeSpec := { name := "tokensSlices", fn := fun _ => fun
  | [d1, d2, d3] => { results := [.lit (.bool false)], args := [d1, d2, d3] }
  | _ => none }
def TokensSlicesWrongFalsely : Prop := tokensSlicesRow.holds Try.pinned (OpenSpec.ofChange tokensSlicesWrong)

/-- 'corporalaw16.TokensParts': WHATEVER THE INPUT: true; the input reads as it did. -/
def tokensPartsSpec : ChangeSpec := { name := "tokensParts", fn := fun _ => fun
  | [d1, d2] => { results := [.lit (.bool true)], args := [d1, d2] }
  | _ => none }
def tokensPartsRow : OpenClaim := { program := "ytfhbflhnelbkfaa", sum := "223f7fc2594cd405beb300dfeccbbc9a0865181cb096cbe435a764774781c5c1", func := "corpora/corporalaw16.TokensParts", spec := "tokensParts", unfollowed := true, recurses := true, apart := false }
def TokensPartsSaid : Prop := tokensPartsRow.holds Try.pinned (OpenSpec.ofChange tokensPartsSpec)

/-- ITS FALSE NEIGHBOUR: 'it returns false'. Refute it at one input. -/
def tokensPartsWrong : ChangeSpec := { name := "tokensParts", fn := fun _ => fun
  | [d1, d2] => { results := [.lit (.bool false)], args := [d1, d2] }
  | _ => none }
def TokensPartsWrongFalsely : Prop := tokensPartsRow.holds Try.pinned (OpenSpec.ofChange tokensPartsWrong)

/-- 'corporalaw16.TokensEncodes': WHATEVER THE INPUT: true; the input reads as it did. -/
def tokensEncodesSpec : ChangeSpec := { name := "tokensEncodes", fn := fun _ => fun
  | [d] => { results := [.lit (.bool true)], args := [d] }
  | _ => none }
def tokensEncodesRow : OpenClaim := { program := "ytfhbflhnelbkfaa", sum := "223f7fc2594cd405beb300dfeccbbc9a0865181cb096cbe435a764774781c5c1", func := "corpora/corporalaw16.TokensEncodes", spec := "tokensEncodes", unfollowed := true, recurses := true, apart := false }
def TokensEncodesSaid : Prop := tokensEncodesRow.holds Try.pinned (OpenSpec.ofChange tokensEncodesSpec)

/-- ITS FALSE NEIGHBOUR: 'it returns false'. Refute it at one input. -/
def tokensEncodesWrong : ChangeSpec := { name := "tokensEncodes", fn := fun _ => fun
  | [d] => { results := [.lit (.bool false)], args := [d] }
  | _ => none }
def TokensEncodesWrongFalsely : Prop := tokensEncodesRow.holds Try.pinned (OpenSpec.ofChange tokensEncodesWrong)

/-- 'corporalaw13.LexiconLimits': WHATEVER THE INPUT: true; the input reads as it did. -/
def lexiconLimitsSpec : ChangeSpec := { name := "lexiconLimits", fn := fun _ => fun
  | [d1, d2] => { results := [.lit (.bool true)], args := [d1, d2] }
  | _ => none }
def lexiconLimitsRow : OpenClaim := { program := "ytfhbflhnelbkfaa", sum := "223f7fc2594cd405beb300dfeccbbc9a0865181cb096cbe435a764774781c5c1", func := "corpora/corporalaw13.LexiconLimits", spec := "lexiconLimits", inPlace := ["internal/bytealg.abigen_runtime_cmpstring"], unfollowed := true, recurses := true, apart := false }
def LexiconLimitsSaid : Prop := lexiconLimitsRow.holds Try.pinned (OpenSpec.ofChange lexiconLimitsSpec)

/-- ITS FALSE NEIGHBOUR: 'it returns false'. Refute it at one input. -/
def lexiconLimitsWrong : ChangeSpec := { name := "lexiconLimits", fn := fun _ => fun
  | [d1, d2] => { results := [.lit (.bool false)], args := [d1, d2] }
  | _ => none }
def LexiconLimitsWrongFalsely : Prop := lexiconLimitsRow.holds Try.pinned (OpenSpec.ofChange lexiconLimitsWrong)

/-- 'corporalaw13.LexiconBuilds': WHATEVER THE INPUT: true; the input reads as it did. -/
def lexiconBuildsSpec : ChangeSpec := { name := "lexiconBuilds", fn := fun _ => fun
  | [d] => { results := [.lit (.bool true)], args := [d] }
  | _ => none }
def lexiconBuildsRow : OpenClaim := { program := "ytfhbflhnelbkfaa", sum := "223f7fc2594cd405beb300dfeccbbc9a0865181cb096cbe435a764774781c5c1", func := "corpora/corporalaw13.LexiconBuilds", spec := "lexiconBuilds", inPlace := ["internal/bytealg.abigen_runtime_cmpstring"], unfollowed := true, recurses := true, apart := false }
def LexiconBuildsSaid : Prop := lexiconBuildsRow.holds Try.pinned (OpenSpec.ofChange lexiconBuildsSpec)

/-- ITS FALSE NEIGHBOUR: 'it returns false'. Refute it at one input. -/
def lexiconBuildsWrong : ChangeSpec := { name := "lexiconBuilds", fn := fun _ => fun
  | [d] => { results := [.lit (.bool false)], args := [d] }
  | _ => none }
def LexiconBuildsWrongFalsely : Prop := lexiconBuildsRow.holds Try.pinned (OpenSpec.ofChange lexiconBuildsWrong)

/-- 'corporalaw13.LexiconFinds': WHATEVER THE INPUT: true; the input reads as it did. -/
def lexiconFindsSpec : ChangeSpec := { name := "lexiconFinds", fn := fun _ => fun
  | [d1, d2, d3] => { results := [.lit (.bool true)], args := [d1, d2, d3] }
  | _ => none }
def lexiconFindsRow : OpenClaim := { program := "ytfhbflhnelbkfaa", sum := "223f7fc2594cd405beb300dfeccbbc9a0865181cb096cbe435a764774781c5c1", func := "corpora/corporalaw13.LexiconFinds", spec := "lexiconFinds", inPlace := ["internal/bytealg.abigen_runtime_cmpstring"], unfollowed := true, recurses := true, apart := false }
def LexiconFindsSaid : Prop := lexiconFindsRow.holds Try.pinned (OpenSpec.ofChange lexiconFindsSpec)

/-- ITS FALSE NEIGHBOUR: 'it returns false'. Refute it at one input. -/
def lexiconFindsWrong : ChangeSpec := { name := "lexiconFinds", fn := fun _ => fun
  | [d1, d2, d3] => { results := [.lit (.bool false)], args := [d1, d2, d3] }
  | _ => none }
def LexiconFindsWrongFalsely : Prop := lexiconFindsRow.holds Try.pinned (OpenSpec.ofChange lexiconFindsWrong)

/-- 'corporalaw13.LexiconParts': WHATEVER THE INPUT: true; the input reads as it did. -/
def lexiconPartsSpec : ChangeSpec := { name := "lexiconParts", fn := fun _ => fun
  | [d1, d2] => { results := [.lit (.bool true)], args := [d1, d2] }
  | _ => none }
def lexiconPartsRow : OpenClaim := { program := "ytfhbflhnelbkfaa", sum := "223f7fc2594cd405beb300dfeccbbc9a0865181cb096cbe435a764774781c5c1", func := "corpora/corporalaw13.LexiconParts", spec := "lexiconParts", inPlace := ["internal/bytealg.abigen_runtime_cmpstring"], unfollowed := true, recurses := true, apart := false }
def LexiconPartsSaid : Prop := lexiconPartsRow.holds Try.pinned (OpenSpec.ofChange lexiconPartsSpec)

/-- ITS FALSE NEIGHBOUR: 'it returns false'. Refute it at one input. -/
def lexiconPartsWrong : ChangeSpec := { name := "lexiconParts", fn := fun _ => fun
  | [d1, d2] => { results := [.lit (.bool false)], args := [d1, d2] }
  | _ => none }
def LexiconPartsWrongFalsely : Prop := lexiconPartsRow.holds Try.pinned (OpenSpec.ofChange lexiconPartsWrong)

/-- 'corporalaw13.LexiconSorted': WHATEVER THE INPUT: true; the input reads as it did. -/
def lexiconSortedSpec : ChangeSpec := { name := "lexiconSorted", fn := fun _ => fun
  | [d] => { results := [.lit (.bool true)], args := [d] }
  | _ => none }
def lexiconSortedRow : OpenClaim := { program := "ytfhbflhnelbkfaa", sum := "223f7fc2594cd405beb300dfeccbbc9a0865181cb096cbe435a764774781c5c1", func := "corpora/corporalaw13.LexiconSorted", spec := "lexiconSorted", inPlace := ["internal/bytealg.abigen_runtime_cmpstring"], unfollowed := true, recurses := true, apart := false }
def LexiconSortedSaid : Prop := lexiconSortedRow.holds Try.pinned (OpenSpec.ofChange lexiconSortedSpec)

/-- ITS FALSE NEIGHBOUR: 'it returns false'. Refute it at one input. -/
def lexiconSortedWrong : ChangeSpec := { name := "lexiconSorted", fn := fun _ => fun
  | [d] => { results := [.lit (.bool false)], args := [d] }
  | _ => none }
def LexiconSortedWrongFalsely : Prop := lexiconSortedRow.holds Try.pinned (OpenSpec.ofChange lexiconSortedWrong)

/-- 'corporalaw13.LexiconAffixes': WHATEVER THE INPUT: true; the input reads as it did. -/
def lexiconAffixesSpec : ChangeSpec := { name := "lexiconAffixes", fn := fun _ => fun
  | [d1, d2] => { results := [.lit (.bool true)], args := [d1, d2] }
  | _ => none }
def lexiconAffixesRow : OpenClaim := { program := "ytfhbflhnelbkfaa", sum := "223f7fc2594cd405beb300dfeccbbc9a0865181cb096cbe435a764774781c5c1", func := "corpora/corporalaw13.LexiconAffixes", spec := "lexiconAffixes", inPlace := ["internal/bytealg.abigen_runtime_cmpstring"], unfollowed := true, recurses := true, apart := false }
def LexiconAffixesSaid : Prop := lexiconAffixesRow.holds Try.pinned (OpenSpec.ofChange lexiconAffixesSpec)

/-- ITS FALSE NEIGHBOUR: 'it returns false'. Refute it at one input. -/
def lexiconAffixesWrong : ChangeSpec := { name := "lexiconAffixes", fn := fun _ => fun
  | [d1, d2] => { results := [.lit (.bool false)], args := [d1, d2] }
  | _ => none }
def LexiconAffixesWrongFalsely : Prop := lexiconAffixesRow.holds Try.pinned (OpenSpec.ofChange lexiconAffixesWrong)

/-- 'corporalaw13.LexiconMerges': WHATEVER THE INPUT: true; the input reads as it did. -/
def lexiconMergesSpec : ChangeSpec := { name := "lexiconMerges", fn := fun _ => fun
  | [d1, d2] => { results := [.lit (.bool true)], args := [d1, d2] }
  | _ => none }
def lexiconMergesRow : OpenClaim := { program := "ytfhbflhnelbkfaa", sum := "223f7fc2594cd405beb300dfeccbbc9a0865181cb096cbe435a764774781c5c1", func := "corpora/corporalaw13.LexiconMerges", spec := "lexiconMerges", inPlace := ["internal/bytealg.abigen_runtime_cmpstring"], unfollowed := true, recurses := true, apart := false }
def LexiconMergesSaid : Prop := lexiconMergesRow.holds Try.pinned (OpenSpec.ofChange lexiconMergesSpec)

/-- ITS FALSE NEIGHBOUR: 'it returns false'. Refute it at one input. -/
def lexiconMergesWrong : ChangeSpec := { name := "lexiconMerges", fn := fun _ => fun
  | [d1, d2] => { results := [.lit (.bool false)], args := [d1, d2] }
  | _ => none }
def LexiconMergesWrongFalsely : Prop := lexiconMergesRow.holds Try.pinned (OpenSpec.ofChange lexiconMergesWrong)

/-- 'corporalaw13.LexiconJoins': WHATEVER THE INPUT: true; the input reads as it did. -/
def lexiconJoinsSpec : ChangeSpec := { name := "lexiconJoins", fn := fun _ => fun
  | [d1, d2] => { results := [.lit (.bool true)], args := [d1, d2] }
  | _ => none }
def lexiconJoinsRow : OpenClaim := { program := "ytfhbflhnelbkfaa", sum := "223f7fc2594cd405beb300dfeccbbc9a0865181cb096cbe435a764774781c5c1", func := "corpora/corporalaw13.LexiconJoins", spec := "lexiconJoins", inPlace := ["internal/bytealg.abigen_runtime_cmpstring"], unfollowed := true, recurses := true, apart := false }
def LexiconJoinsSaid : Prop := lexiconJoinsRow.holds Try.pinned (OpenSpec.ofChange lexiconJoinsSpec)

/-- ITS FALSE NEIGHBOUR: 'it returns false'. Refute it at one input. -/
def lexiconJoinsWrong : ChangeSpec := { name := "lexiconJoins", fn := fun _ => fun
  | [d1, d2] => { results := [.lit (.bool false)], args := [d1, d2] }
  | _ => none }
def LexiconJoinsWrongFalsely : Prop := lexiconJoinsRow.holds Try.pinned (OpenSpec.ofChange lexiconJoinsWrong)

/-- 'corporalaw13.LexiconEncodes': WHATEVER THE INPUT: true; the input reads as it did. -/
def lexiconEncodesSpec : ChangeSpec := { name := "lexiconEncodes", fn := fun _ => fun
  | [d] => { results := [.lit (.bool true)], args := [d] }
  | _ => none }
def lexiconEncodesRow : OpenClaim := { program := "ytfhbflhnelbkfaa", sum := "223f7fc2594cd405beb300dfeccbbc9a0865181cb096cbe435a764774781c5c1", func := "corpora/corporalaw13.LexiconEncodes", spec := "lexiconEncodes", inPlace := ["internal/bytealg.abigen_runtime_cmpstring"], unfollowed := true, recurses := true, apart := false }
def LexiconEncodesSaid : Prop := lexiconEncodesRow.holds Try.pinned (OpenSpec.ofChange lexiconEncodesSpec)

/-- ITS FALSE NEIGHBOUR: 'it returns false'. Refute it at one input. -/
def lexiconEncodesWrong : ChangeSpec := { name := "lexiconEncodes", fn := fun _ => fun
  | [d] => { results := [.lit (.bool false)], args := [d] }
  | _ => none }
def LexiconEncodesWrongFalsely : Prop := lexiconEncodesRow.holds Try.pinned (OpenSpec.ofChange lexiconEncodesWrong)

/-- 'corporalaw13.LexiconDecodes': WHATEVER THE INPUT: true; the input reads as it did. -/
def lexiconDecodesSpec : ChangeSpec := { name := "lexiconDecodes", fn := fun _ => fun
  | [d] => { results := [.lit (.bool true)], args := [d] }
  | _ => none }
def lexiconDecodesRow : OpenClaim := { program := "ytfhbflhnelbkfaa", sum := "223f7fc2594cd405beb300dfeccbbc9a0865181cb096cbe435a764774781c5c1", func := "corpora/corporalaw13.LexiconDecodes", spec := "lexiconDecodes", inPlace := ["internal/bytealg.abigen_runtime_cmpstring"], unfollowed := true, recurses := true, apart := false }
def LexiconDecodesSaid : Prop := lexiconDecodesRow.holds Try.pinned (OpenSpec.ofChange lexiconDecodesSpec)

/-- ITS FALSE NEIGHBOUR: 'it returns false'. Refute it at one input. -/
def lexiconDecodesWrong : ChangeSpec := { name := "lexiconDecodes", fn := fun _ => fun
  | [d] => { results := [.lit (.bool false)], args := [d] }
  | _ => none }
def LexiconDecodesWrongFalsely : Prop := lexiconDecodesRow.holds Try.pinned (OpenSpec.ofChange lexiconDecodesWrong)

/-- 'corporalaw13.LexiconOrders': WHATEVER THE INPUT: true; the input reads as it did. -/
def lexiconOrdersSpec : ChangeSpec := { name := "lexiconOrders", fn := fun _ => fun
  | [d] => { results := [.lit (.bool true)], args := [d] }
  | _ => none }
def lexiconOrdersRow : OpenClaim := { program := "ytfhbflhnelbkfaa", sum := "223f7fc2594cd405beb300dfeccbbc9a0865181cb096cbe435a764774781c5c1", func := "corpora/corporalaw13.LexiconOrders", spec := "lexiconOrders", inPlace := ["internal/bytealg.abigen_runtime_cmpstring"], unfollowed := true, recurses := true, apart := false }
def LexiconOrdersSaid : Prop := lexiconOrdersRow.holds Try.pinned (OpenSpec.ofChange lexiconOrdersSpec)

/-- ITS FALSE NEIGHBOUR: 'it returns false'. Refute it at one input. -/
def lexiconOrdersWrong : ChangeSpec := { name := "lexiconOrders", fn := fun _ => fun
  | [d] => { results := [.lit (.bool false)], args := [d] }
  | _ => none }
def LexiconOrdersWrongFalsely : Prop := lexiconOrdersRow.holds Try.pinned (OpenSpec.ofChange lexiconOrdersWrong)

/- THE SECOND FORM. 'bulk': how many values and letters a reading holds, each counted each time it is reached (what is shared counts as often as it is met; a slice's spare places count too). A statement '..UptoSaid' is the law's where the arguments, and the package variables that the reading takes, are together of bulk at most 1048576: NARROWER than '..Said'. Prove '..Said' where nothing that the law and all that it calls make is longer than what came in: it says more and counts as full. Else prove '..UptoSaid'. A law counts once. -/
mutual
def uptoBulk {H : Type} : DataW H → Nat
  | .lit (.string bytes) => bytes.length + 1
  | .lit _ => 1
  | .nil => 1
  | .ptr d => uptoBulk d + 1
  | .slice elems spare => uptoBulkAll elems + uptoBulkAll spare + 1
  | .agg parts => uptoBulkAll parts + 1
  | .iface _ d => uptoBulk d + 1
  | .map entries => uptoBulkEntries entries + 1
  | .held _ => 1
def uptoBulkAll {H : Type} : List (DataW H) → Nat
  | [] => 0
  | d :: r => uptoBulk d + uptoBulkAll r
def uptoBulkEntries {H : Type} : List (Lit × DataW H) → Nat
  | [] => 0
  | x :: r => uptoBulkEntry x + uptoBulkEntries r
def uptoBulkEntry {H : Type} : Lit × DataW H → Nat
  | (.string bytes, d) => bytes.length + uptoBulk d + 1
  | (_, d) => uptoBulk d + 1
 end
def uptoSmall : (H : Type) → List (DataW H) → Bool := fun _ ds => decide (uptoBulkAll ds ≤ 1048576)
def OpenSpec.upto (s : _root_.Go.ChangeSpec) : _root_.Go.OpenSpec := { _root_.Go.OpenSpec.ofChange s with cond := some uptoSmall }

/-- 'corporalaw16.TokensBuilds', WHERE WHAT IT READS IS OF BULK AT MOST 1048576: true; the input reads as it did. -/
def tokensBuildsUptoRow : OpenClaim := { program := "ytfhbflhnelbkfaa", sum := "223f7fc2594cd405beb300dfeccbbc9a0865181cb096cbe435a764774781c5c1", func := "corpora/corporalaw16.TokensBuilds", spec := "tokensBuilds", unfollowed := true, recurses := true, apart := false, narrowed := true }
def TokensBuildsUptoSaid : Prop := tokensBuildsUptoRow.holds Try.pinned (OpenSpec.upto tokensBuildsSpec)

/-- 'corporalaw16.TokensReads', WHERE WHAT IT READS IS OF BULK AT MOST 1048576: true; the input reads as it did. -/
def tokensReadsUptoRow : OpenClaim := { program := "ytfhbflhnelbkfaa", sum := "223f7fc2594cd405beb300dfeccbbc9a0865181cb096cbe435a764774781c5c1", func := "corpora/corporalaw16.TokensReads", spec := "tokensReads", unfollowed := true, recurses := true, apart := false, narrowed := true }
def TokensReadsUptoSaid : Prop := tokensReadsUptoRow.holds Try.pinned (OpenSpec.upto tokensReadsSpec)

/-- 'corporalaw16.TokensLimits', WHERE WHAT IT READS IS OF BULK AT MOST 1048576: true; the input reads as it did. -/
def tokensLimitsUptoRow : OpenClaim := { program := "ytfhbflhnelbkfaa", sum := "223f7fc2594cd405beb300dfeccbbc9a0865181cb096cbe435a764774781c5c1", func := "corpora/corporalaw16.TokensLimits", spec := "tokensLimits", unfollowed := true, recurses := true, apart := false, narrowed := true }
def TokensLimitsUptoSaid : Prop := tokensLimitsUptoRow.holds Try.pinned (OpenSpec.upto tokensLimitsSpec)

/-- 'corporalaw16.TokensSlices', WHERE WHAT IT READS IS OF BULK AT MOST 1048576: true; the input reads as it did. -/
def tokensSlicesUptoRow : OpenClaim := { program := "ytfhbflhnelbkfaa", sum := "223f7fc2594cd405beb300dfeccbbc9a0865181cb096cbe435a764774781c5c1", func := "corpora/corporalaw16.TokensSlices", spec := "tokensSlices", unfollowed := true, recurses := true, apart := false, narrowed := true }
def TokensSlicesUptoSaid : Prop := tokensSlicesUptoRow.holds Try.pinned (OpenSpec.upto tokensSlicesSpec)

/-- 'corporalaw16.TokensParts', WHERE WHAT IT READS IS OF BULK AT MOST 1048576: true; the input reads as it did. -/
def tokensPartsUptoRow : OpenClaim := { program := "ytfhbflhnelbkfaa", sum := "223f7fc2594cd405beb300dfeccbbc9a0865181cb096cbe435a764774781c5c1", func := "corpora/corporalaw16.TokensParts", spec := "tokensParts", unfollowed := true, recurses := true, apart := false, narrowed := true }
def TokensPartsUptoSaid : Prop := tokensPartsUptoRow.holds Try.pinned (OpenSpec.upto tokensPartsSpec)

/-- 'corporalaw16.TokensEncodes', WHERE WHAT IT READS IS OF BULK AT MOST 1048576: true; the input reads as it did. -/
def tokensEncodesUptoRow : OpenClaim := { program := "ytfhbflhnelbkfaa", sum := "223f7fc2594cd405beb300dfeccbbc9a0865181cb096cbe435a764774781c5c1", func := "corpora/corporalaw16.TokensEncodes", spec := "tokensEncodes", unfollowed := true, recurses := true, apart := false, narrowed := true }
def TokensEncodesUptoSaid : Prop := tokensEncodesUptoRow.holds Try.pinned (OpenSpec.upto tokensEncodesSpec)

/-- 'corporalaw13.LexiconLimits', WHERE WHAT IT READS IS OF BULK AT MOST 1048576: true; the input reads as it did. -/
def lexiconLimitsUptoRow : OpenClaim := { program := "ytfhbflhnelbkfaa", sum := "223f7fc2594cd405beb300dfeccbbc9a0865181cb096cbe435a764774781c5c1", func := "corpora/corporalaw13.LexiconLimits", spec := "lexiconLimits", inPlace := ["internal/bytealg.abigen_runtime_cmpstring"], unfollowed := true, recurses := true, apart := false, narrowed := true }
def LexiconLimitsUptoSaid : Prop := lexiconLimitsUptoRow.holds Try.pinned (OpenSpec.upto lexiconLimitsSpec)

/-- 'corporalaw13.LexiconBuilds', WHERE WHAT IT READS IS OF BULK AT MOST 1048576: true; the input reads as it did. -/
def lexiconBuildsUptoRow : OpenClaim := { program := "ytfhbflhnelbkfaa", sum := "223f7fc2594cd405beb300dfeccbbc9a0865181cb096cbe435a764774781c5c1", func := "corpora/corporalaw13.LexiconBuilds", spec := "lexiconBuilds", inPlace := ["internal/bytealg.abigen_runtime_cmpstring"], unfollowed := true, recurses := true, apart := false, narrowed := true }
def LexiconBuildsUptoSaid : Prop := lexiconBuildsUptoRow.holds Try.pinned (OpenSpec.upto lexiconBuildsSpec)

/-- 'corporalaw13.LexiconFinds', WHERE WHAT IT READS IS OF BULK AT MOST 1048576: true; the input reads as it did. -/
def lexiconFindsUptoRow : OpenClaim := { program := "ytfhbflhnelbkfaa", sum := "223f7fc2594cd405beb300dfeccbbc9a0865181cb096cbe435a764774781c5c1", func := "corpora/corporalaw13.LexiconFinds", spec := "lexiconFinds", inPlace := ["internal/bytealg.abigen_runtime_cmpstring"], unfollowed := true, recurses := true, apart := false, narrowed := true }
def LexiconFindsUptoSaid : Prop := lexiconFindsUptoRow.holds Try.pinned (OpenSpec.upto lexiconFindsSpec)

/-- 'corporalaw13.LexiconParts', WHERE WHAT IT READS IS OF BULK AT MOST 1048576: true; the input reads as it did. -/
def lexiconPartsUptoRow : OpenClaim := { program := "ytfhbflhnelbkfaa", sum := "223f7fc2594cd405beb300dfeccbbc9a0865181cb096cbe435a764774781c5c1", func := "corpora/corporalaw13.LexiconParts", spec := "lexiconParts", inPlace := ["internal/bytealg.abigen_runtime_cmpstring"], unfollowed := true, recurses := true, apart := false, narrowed := true }
def LexiconPartsUptoSaid : Prop := lexiconPartsUptoRow.holds Try.pinned (OpenSpec.upto lexiconPartsSpec)

/-- 'corporalaw13.LexiconSorted', WHERE WHAT IT READS IS OF BULK AT MOST 1048576: true; the input reads as it did. -/
def lexiconSortedUptoRow : OpenClaim := { program := "ytfhbflhnelbkfaa", sum := "223f7fc2594cd405beb300dfeccbbc9a0865181cb096cbe435a764774781c5c1", func := "corpora/corporalaw13.LexiconSorted", spec := "lexiconSorted", inPlace := ["internal/bytealg.abigen_runtime_cmpstring"], unfollowed := true, recurses := true, apart := false, narrowed := true }
def LexiconSortedUptoSaid : Prop := lexiconSortedUptoRow.holds Try.pinned (OpenSpec.upto lexiconSortedSpec)

/-- 'corporalaw13.LexiconAffixes', WHERE WHAT IT READS IS OF BULK AT MOST 1048576: true; the input reads as it did. -/
def lexiconAffixesUptoRow : OpenClaim := { program := "ytfhbflhnelbkfaa", sum := "223f7fc2594cd405beb300dfeccbbc9a0865181cb096cbe435a764774781c5c1", func := "corpora/corporalaw13.LexiconAffixes", spec := "lexiconAffixes", inPlace := ["internal/bytealg.abigen_runtime_cmpstring"], unfollowed := true, recurses := true, apart := false, narrowed := true }
def LexiconAffixesUptoSaid : Prop := lexiconAffixesUptoRow.holds Try.pinned (OpenSpec.upto lexiconAffixesSpec)

/-- 'corporalaw13.LexiconMerges', WHERE WHAT IT READS IS OF BULK AT MOST 1048576: true; the input reads as it did. -/
def lexiconMergesUptoRow : OpenClaim := { program := "ytfhbflhnelbkfaa", sum := "223f7fc2594cd405beb300dfeccbbc9a0865181cb096cbe435a764774781c5c1", func := "corpora/corporalaw13.LexiconMerges", spec := "lexiconMerges", inPlace := ["internal/bytealg.abigen_runtime_cmpstring"], unfollowed := true, recurses := true, apart := false, narrowed := true }
def LexiconMergesUptoSaid : Prop := lexiconMergesUptoRow.holds Try.pinned (OpenSpec.upto lexiconMergesSpec)

/-- 'corporalaw13.LexiconJoins', WHERE WHAT IT READS IS OF BULK AT MOST 1048576: true; the input reads as it did. -/
def lexiconJoinsUptoRow : OpenClaim := { program := "ytfhbflhnelbkfaa", sum := "223f7fc2594cd405beb300dfeccbbc9a0865181cb096cbe435a764774781c5c1", func := "corpora/corporalaw13.LexiconJoins", spec := "lexiconJoins", inPlace := ["internal/bytealg.abigen_runtime_cmpstring"], unfollowed := true, recurses := true, apart := false, narrowed := true }
def LexiconJoinsUptoSaid : Prop := lexiconJoinsUptoRow.holds Try.pinned (OpenSpec.upto lexiconJoinsSpec)

/-- 'corporalaw13.LexiconEncodes', WHERE WHAT IT READS IS OF BULK AT MOST 1048576: true; the input reads as it did. -/
def lexiconEncodesUptoRow : OpenClaim := { program := "ytfhbflhnelbkfaa", sum := "223f7fc2594cd405beb300dfeccbbc9a0865181cb096cbe435a764774781c5c1", func := "corpora/corporalaw13.LexiconEncodes", spec := "lexiconEncodes", inPlace := ["internal/bytealg.abigen_runtime_cmpstring"], unfollowed := true, recurses := true, apart := false, narrowed := true }
def LexiconEncodesUptoSaid : Prop := lexiconEncodesUptoRow.holds Try.pinned (OpenSpec.upto lexiconEncodesSpec)

/-- 'corporalaw13.LexiconDecodes', WHERE WHAT IT READS IS OF BULK AT MOST 1048576: true; the input reads as it did. -/
def lexiconDecodesUptoRow : OpenClaim := { program := "ytfhbflhnelbkfaa", sum := "223f7fc2594cd405beb300dfeccbbc9a0865181cb096cbe435a764774781c5c1", func := "corpora/corporalaw13.LexiconDecodes", spec := "lexiconDecodes", inPlace := ["internal/bytealg.abigen_runtime_cmpstring"], unfollowed := true, recurses := true, apart := false, narrowed := true }
def LexiconDecodesUptoSaid : Prop := lexiconDecodesUptoRow.holds Try.pinned (OpenSpec.upto lexiconDecodesSpec)

/-- 'corporalaw13.LexiconOrders', WHERE WHAT IT READS IS OF BULK AT MOST 1048576: true; the input reads as it did. -/
def lexiconOrdersUptoRow : OpenClaim := { program := "ytfhbflhnelbkfaa", sum := "223f7fc2594cd405beb300dfeccbbc9a0865181cb096cbe435a764774781c5c1", func := "corpora/corporalaw13.LexiconOrders", spec := "lexiconOrders", inPlace := ["internal/bytealg.abigen_runtime_cmpstring"], unfollowed := true, recurses := true, apart := false, narrowed := true }
def LexiconOrdersUptoSaid : Prop := lexiconOrdersUptoRow.holds Try.pinned (OpenSpec.upto lexiconOrdersSpec)

end Rows
end Go.Proofs.Ytfhbflhnelbkfaa
