/-
  DERIVED. GIVEN WITH THE SEED: THE CARDS: each row of YtcmldpiicnobnaaGreatDoorRows.lean that lists a variable, with what it lists TIED to the program's text (the seventh form; the later family's looks); each row that meets fmt, with fmt's text TOLD by the authors' own Lean function (tested against real Go, not proved from fmt's source: count such statements apart). THE CARD IS WHAT COUNTS. Prove the row's statement (the work); the ties are given (YtcmldpiicnobnaaGreatDoorTie.lean); close each card by the builder's one call (the guide's Derived/Test/ToyasCard.lean, 'card_holds'). Laid BY PROGRAM, IN A SANDBOX (cutbox-door.mjs). By AI agents, Wed Nov 11 2026. No macro, syntax, notation, axiom, sorry.
-/
import Derived.Test.YtcmldpiicnobnaaGreatDoorRows
import GoSem.ClaimSeven
namespace Go.Proofs.YtcmldpiicnobnaaGreatDoor
namespace Rows

/-- THE TIED CARD OF 'corporalaw42.StoreManifests'. -/
def storeManifestsCard : Claim7 := { stood := { row := storeManifestsRow, standIns := [], harness := (true, "4ab130085b62dccb6d5481a406116fbc058fa08a85b82b82fd56491bf438ef28"), looks := true }, kinds := [], alts := [], laidByText := true, laidKinds := [.data, .data, .data, .data, .sentinel, .sentinel, .pinned], laidTests := true, laidLooks := .later }
def StoreManifestsCardSaid : Prop := Claim7.holds Tryz.pinned (.plain (OpenSpec.ofChange storeManifestsSpec)) storeManifestsCard

/-- THE SECOND FORM's CARD OF 'corporalaw42.StoreManifests'. -/
def storeManifestsUptoCard : Claim7 := { stood := { row := storeManifestsUptoRow, standIns := [], harness := (true, "4ab130085b62dccb6d5481a406116fbc058fa08a85b82b82fd56491bf438ef28"), looks := true }, kinds := [], alts := [], laidByText := true, laidKinds := [.data, .data, .data, .data, .sentinel, .sentinel, .pinned], laidTests := true, laidLooks := .later }
def StoreManifestsUptoCardSaid : Prop := Claim7.holds Tryz.pinned (.plain (OpenSpec.upto storeManifestsSpec)) storeManifestsUptoCard
end Rows
end Go.Proofs.YtcmldpiicnobnaaGreatDoor
