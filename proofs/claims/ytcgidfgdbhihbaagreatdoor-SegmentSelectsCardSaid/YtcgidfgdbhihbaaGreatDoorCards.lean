/-
  DERIVED. GIVEN WITH THE SEED: THE CARDS: each row of YtcgidfgdbhihbaaGreatDoorRows.lean that lists a variable, with what it lists TIED to the program's text (the seventh form; the later family's looks); each row that meets fmt, with fmt's text TOLD by the authors' own Lean function (tested against real Go, not proved from fmt's source: count such statements apart). THE CARD IS WHAT COUNTS. Prove the row's statement (the work); the ties are given (YtcgidfgdbhihbaaGreatDoorTie.lean); close each card by the builder's one call (the guide's Derived/Test/ToyasCard.lean, 'card_holds'). Laid BY PROGRAM, IN A SANDBOX (cutbox-door.mjs). By AI agents, Wed Nov 11 2026. No macro, syntax, notation, axiom, sorry.
-/
import Derived.Test.YtcgidfgdbhihbaaGreatDoorRows
import GoSem.ClaimSeven
namespace Go.Proofs.YtcgidfgdbhihbaaGreatDoor
namespace Rows

/-- THE TIED CARD OF 'corporalaw41.SegmentSelects'. -/
def segmentSelectsCard : Claim7 := { stood := { row := segmentSelectsRow, standIns := [], harness := (true, "d48be092b0ee8fb0695907f620e16baef1219ef61fec28cbbd8d5d9f10f2a237"), looks := false }, kinds := [], alts := [], laidByText := true, laidKinds := [.data, .pinned], laidTests := true, laidLooks := .later }
def SegmentSelectsCardSaid : Prop := Claim7.holds Tryz.pinned (.plain (OpenSpec.ofChange segmentSelectsSpec)) segmentSelectsCard

/-- THE SECOND FORM's CARD OF 'corporalaw41.SegmentSelects'. -/
def segmentSelectsUptoCard : Claim7 := { stood := { row := segmentSelectsUptoRow, standIns := [], harness := (true, "d48be092b0ee8fb0695907f620e16baef1219ef61fec28cbbd8d5d9f10f2a237"), looks := false }, kinds := [], alts := [], laidByText := true, laidKinds := [.data, .pinned], laidTests := true, laidLooks := .later }
def SegmentSelectsUptoCardSaid : Prop := Claim7.holds Tryz.pinned (.plain (OpenSpec.upto segmentSelectsSpec)) segmentSelectsUptoCard
end Rows
end Go.Proofs.YtcgidfgdbhihbaaGreatDoor
