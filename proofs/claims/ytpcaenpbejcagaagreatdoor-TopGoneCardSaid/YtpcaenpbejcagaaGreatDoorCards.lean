/-
  DERIVED. GIVEN WITH THE SEED: THE CARDS: each row of YtpcaenpbejcagaaGreatDoorRows.lean that lists a variable, with what it lists TIED to the program's text (the seventh form; the later family's looks); each row that meets fmt, with fmt's text TOLD by the authors' own Lean function (tested against real Go, not proved from fmt's source: count such statements apart). THE CARD IS WHAT COUNTS. Prove the row's statement (the work); the ties are given (YtpcaenpbejcagaaGreatDoorTie.lean); close each card by the builder's one call (the guide's Derived/Test/ToyasCard.lean, 'card_holds'). Laid BY PROGRAM, IN A SANDBOX (cutbox-door.mjs). By AI agents, Wed Nov 11 2026. No macro, syntax, notation, axiom, sorry.
-/
import Derived.Test.YtpcaenpbejcagaaGreatDoorRows
import GoSem.ClaimSeven
namespace Go.Proofs.YtpcaenpbejcagaaGreatDoor
namespace Rows

/-- THE TIED CARD OF 'seliontop.TopHalf'. -/
def topHalfCard : Claim7 := { stood := { row := topHalfRow, standIns := [], harness := (true, "ab3c05db88b8777a2fae3b58822372f5d85084d7c12794f2218c110beb4266a6"), looks := true }, kinds := [], alts := [], laidByText := true, laidKinds := [.pinned, .data, .sentinel, .data, .sentinel, .sentinel, .sentinel, .sentinel, .sentinel, .sentinel, .sentinel, .handle, .data, .data, .data, .sentinel, .sentinel, .sentinel, .sentinel, .sentinel, .sentinel, .data, .sentinel, .sentinel, .sentinel, .data, .sentinel, .sentinel, .sentinel, .sentinel], laidTests := true, laidLooks := .later }
def TopHalfCardSaid : Prop := Claim7.holds Tryz.pinned (.plain (OpenSpec.ofChange topHalfSpec)) topHalfCard

/-- THE TIED CARD OF 'seliontop.TopGone'. -/
def topGoneCard : Claim7 := { stood := { row := topGoneRow, standIns := [], harness := (true, "ab3c05db88b8777a2fae3b58822372f5d85084d7c12794f2218c110beb4266a6"), looks := true }, kinds := [], alts := [], laidByText := true, laidKinds := [.pinned, .data, .sentinel, .data, .sentinel, .sentinel, .sentinel, .sentinel, .sentinel, .sentinel, .sentinel, .handle, .data, .data, .data, .sentinel, .sentinel, .sentinel, .sentinel, .sentinel, .sentinel, .data, .sentinel, .sentinel, .sentinel, .data, .sentinel, .sentinel, .sentinel, .sentinel], laidTests := true, laidLooks := .later }
def TopGoneCardSaid : Prop := Claim7.holds Tryz.pinned (.plain (OpenSpec.ofChange topGoneSpec)) topGoneCard

/-- THE SECOND FORM's CARD OF 'seliontop.TopHalf'. -/
def topHalfUptoCard : Claim7 := { stood := { row := topHalfUptoRow, standIns := [], harness := (true, "ab3c05db88b8777a2fae3b58822372f5d85084d7c12794f2218c110beb4266a6"), looks := true }, kinds := [], alts := [], laidByText := true, laidKinds := [.pinned, .data, .sentinel, .data, .sentinel, .sentinel, .sentinel, .sentinel, .sentinel, .sentinel, .sentinel, .handle, .data, .data, .data, .sentinel, .sentinel, .sentinel, .sentinel, .sentinel, .sentinel, .data, .sentinel, .sentinel, .sentinel, .data, .sentinel, .sentinel, .sentinel, .sentinel], laidTests := true, laidLooks := .later }
def TopHalfUptoCardSaid : Prop := Claim7.holds Tryz.pinned (.plain (OpenSpec.upto topHalfSpec)) topHalfUptoCard

/-- THE SECOND FORM's CARD OF 'seliontop.TopGone'. -/
def topGoneUptoCard : Claim7 := { stood := { row := topGoneUptoRow, standIns := [], harness := (true, "ab3c05db88b8777a2fae3b58822372f5d85084d7c12794f2218c110beb4266a6"), looks := true }, kinds := [], alts := [], laidByText := true, laidKinds := [.pinned, .data, .sentinel, .data, .sentinel, .sentinel, .sentinel, .sentinel, .sentinel, .sentinel, .sentinel, .handle, .data, .data, .data, .sentinel, .sentinel, .sentinel, .sentinel, .sentinel, .sentinel, .data, .sentinel, .sentinel, .sentinel, .data, .sentinel, .sentinel, .sentinel, .sentinel], laidTests := true, laidLooks := .later }
def TopGoneUptoCardSaid : Prop := Claim7.holds Tryz.pinned (.plain (OpenSpec.upto topGoneSpec)) topGoneUptoCard
end Rows
end Go.Proofs.YtpcaenpbejcagaaGreatDoor
