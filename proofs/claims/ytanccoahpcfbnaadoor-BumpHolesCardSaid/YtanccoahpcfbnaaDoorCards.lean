/-
  DERIVED. GIVEN WITH THE SEED: THE CARDS: each row of YtanccoahpcfbnaaDoorRows.lean that lists a variable, with what it lists TIED to the program's text (the seventh form; the later family's looks); each row that meets fmt, with fmt's text TOLD by the authors' own Lean function (tested against real Go, not proved from fmt's source: count such statements apart). THE CARD IS WHAT COUNTS. Prove the row's statement (the work); the ties are given (YtanccoahpcfbnaaDoorTie.lean); close each card by the builder's one call (the guide's Derived/Test/ToyasCard.lean, 'card_holds'). Laid BY PROGRAM, IN A SANDBOX (cutbox-door.mjs). By AI agents, Wed Nov 11 2026. No macro, syntax, notation, axiom, sorry.
-/
import Derived.Test.YtanccoahpcfbnaaDoorRows
import GoSem.ClaimSeven
namespace Go.Proofs.YtanccoahpcfbnaaDoor
namespace Rows

/-- THE TIED CARD OF 'selionlaw11.BumpTakes'. -/
def bumpTakesCard : Claim7 := { stood := { row := bumpTakesRow, standIns := [], harness := (true, "a15534ebb9e4f414e8472465a6f7e6bd14dd02c1dc38c7d33726f62262a46b58"), looks := true }, kinds := [], alts := [], laidByText := true, laidKinds := [.sentinel, .sentinel, .sentinel, .data], laidTests := true, laidLooks := .later }
def BumpTakesCardSaid : Prop := Claim7.holds Tryd.pinned (.plain (OpenSpec.ofChange bumpTakesSpec)) bumpTakesCard

/-- THE TIED CARD OF 'selionlaw11.BumpApart'. -/
def bumpApartCard : Claim7 := { stood := { row := bumpApartRow, standIns := [], harness := (true, "a15534ebb9e4f414e8472465a6f7e6bd14dd02c1dc38c7d33726f62262a46b58"), looks := true }, kinds := [], alts := [], laidByText := true, laidKinds := [.sentinel, .sentinel, .sentinel, .data], laidTests := true, laidLooks := .later }
def BumpApartCardSaid : Prop := Claim7.holds Tryd.pinned (.plain (OpenSpec.ofChange bumpApartSpec)) bumpApartCard

/-- THE TIED CARD OF 'selionlaw11.BumpFree'. -/
def bumpFreeCard : Claim7 := { stood := { row := bumpFreeRow, standIns := [], harness := (true, "a15534ebb9e4f414e8472465a6f7e6bd14dd02c1dc38c7d33726f62262a46b58"), looks := true }, kinds := [], alts := [], laidByText := true, laidKinds := [.sentinel, .sentinel, .sentinel, .data], laidTests := true, laidLooks := .later }
def BumpFreeCardSaid : Prop := Claim7.holds Tryd.pinned (.plain (OpenSpec.ofChange bumpFreeSpec)) bumpFreeCard

/-- THE TIED CARD OF 'selionlaw11.BumpOpens'. -/
def bumpOpensCard : Claim7 := { stood := { row := bumpOpensRow, standIns := [], harness := (true, "a15534ebb9e4f414e8472465a6f7e6bd14dd02c1dc38c7d33726f62262a46b58"), looks := true }, kinds := [], alts := [], laidByText := true, laidKinds := [.sentinel, .sentinel, .sentinel, .data], laidTests := true, laidLooks := .later }
def BumpOpensCardSaid : Prop := Claim7.holds Tryd.pinned (.plain (OpenSpec.ofChange bumpOpensSpec)) bumpOpensCard

/-- THE TIED CARD OF 'selionlaw11.BumpRooms'. -/
def bumpRoomsCard : Claim7 := { stood := { row := bumpRoomsRow, standIns := [], harness := (true, "a15534ebb9e4f414e8472465a6f7e6bd14dd02c1dc38c7d33726f62262a46b58"), looks := true }, kinds := [], alts := [], laidByText := true, laidKinds := [.sentinel, .sentinel, .sentinel, .data], laidTests := true, laidLooks := .later }
def BumpRoomsCardSaid : Prop := Claim7.holds Tryd.pinned (.plain (OpenSpec.ofChange bumpRoomsSpec)) bumpRoomsCard

/-- THE TIED CARD OF 'selionlaw11.BumpHoles'. -/
def bumpHolesCard : Claim7 := { stood := { row := bumpHolesRow, standIns := [], harness := (true, "a15534ebb9e4f414e8472465a6f7e6bd14dd02c1dc38c7d33726f62262a46b58"), looks := true }, kinds := [], alts := [], laidByText := true, laidKinds := [.sentinel, .sentinel, .sentinel, .data], laidTests := true, laidLooks := .later }
def BumpHolesCardSaid : Prop := Claim7.holds Tryd.pinned (.plain (OpenSpec.ofChange bumpHolesSpec)) bumpHolesCard

/-- THE SECOND FORM's CARD OF 'selionlaw11.BumpTakes'. -/
def bumpTakesUptoCard : Claim7 := { stood := { row := bumpTakesUptoRow, standIns := [], harness := (true, "a15534ebb9e4f414e8472465a6f7e6bd14dd02c1dc38c7d33726f62262a46b58"), looks := true }, kinds := [], alts := [], laidByText := true, laidKinds := [.sentinel, .sentinel, .sentinel, .data], laidTests := true, laidLooks := .later }
def BumpTakesUptoCardSaid : Prop := Claim7.holds Tryd.pinned (.plain (OpenSpec.upto bumpTakesSpec)) bumpTakesUptoCard

/-- THE SECOND FORM's CARD OF 'selionlaw11.BumpApart'. -/
def bumpApartUptoCard : Claim7 := { stood := { row := bumpApartUptoRow, standIns := [], harness := (true, "a15534ebb9e4f414e8472465a6f7e6bd14dd02c1dc38c7d33726f62262a46b58"), looks := true }, kinds := [], alts := [], laidByText := true, laidKinds := [.sentinel, .sentinel, .sentinel, .data], laidTests := true, laidLooks := .later }
def BumpApartUptoCardSaid : Prop := Claim7.holds Tryd.pinned (.plain (OpenSpec.upto bumpApartSpec)) bumpApartUptoCard

/-- THE SECOND FORM's CARD OF 'selionlaw11.BumpFree'. -/
def bumpFreeUptoCard : Claim7 := { stood := { row := bumpFreeUptoRow, standIns := [], harness := (true, "a15534ebb9e4f414e8472465a6f7e6bd14dd02c1dc38c7d33726f62262a46b58"), looks := true }, kinds := [], alts := [], laidByText := true, laidKinds := [.sentinel, .sentinel, .sentinel, .data], laidTests := true, laidLooks := .later }
def BumpFreeUptoCardSaid : Prop := Claim7.holds Tryd.pinned (.plain (OpenSpec.upto bumpFreeSpec)) bumpFreeUptoCard

/-- THE SECOND FORM's CARD OF 'selionlaw11.BumpOpens'. -/
def bumpOpensUptoCard : Claim7 := { stood := { row := bumpOpensUptoRow, standIns := [], harness := (true, "a15534ebb9e4f414e8472465a6f7e6bd14dd02c1dc38c7d33726f62262a46b58"), looks := true }, kinds := [], alts := [], laidByText := true, laidKinds := [.sentinel, .sentinel, .sentinel, .data], laidTests := true, laidLooks := .later }
def BumpOpensUptoCardSaid : Prop := Claim7.holds Tryd.pinned (.plain (OpenSpec.upto bumpOpensSpec)) bumpOpensUptoCard

/-- THE SECOND FORM's CARD OF 'selionlaw11.BumpRooms'. -/
def bumpRoomsUptoCard : Claim7 := { stood := { row := bumpRoomsUptoRow, standIns := [], harness := (true, "a15534ebb9e4f414e8472465a6f7e6bd14dd02c1dc38c7d33726f62262a46b58"), looks := true }, kinds := [], alts := [], laidByText := true, laidKinds := [.sentinel, .sentinel, .sentinel, .data], laidTests := true, laidLooks := .later }
def BumpRoomsUptoCardSaid : Prop := Claim7.holds Tryd.pinned (.plain (OpenSpec.upto bumpRoomsSpec)) bumpRoomsUptoCard

/-- THE SECOND FORM's CARD OF 'selionlaw11.BumpHoles'. -/
def bumpHolesUptoCard : Claim7 := { stood := { row := bumpHolesUptoRow, standIns := [], harness := (true, "a15534ebb9e4f414e8472465a6f7e6bd14dd02c1dc38c7d33726f62262a46b58"), looks := true }, kinds := [], alts := [], laidByText := true, laidKinds := [.sentinel, .sentinel, .sentinel, .data], laidTests := true, laidLooks := .later }
def BumpHolesUptoCardSaid : Prop := Claim7.holds Tryd.pinned (.plain (OpenSpec.upto bumpHolesSpec)) bumpHolesUptoCard
end Rows
end Go.Proofs.YtanccoahpcfbnaaDoor
