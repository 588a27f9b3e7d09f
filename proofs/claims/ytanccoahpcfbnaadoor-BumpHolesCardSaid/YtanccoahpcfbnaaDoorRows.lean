/-
  NARROWER THAN 'FOR EVERY INPUT', by the rows' own cells (each row's printed sentence says how): BumpTakes: laid · BumpApart: laid · BumpFree: laid · BumpOpens: laid · BumpRooms: laid · BumpHoles: laid.
  DERIVED. THE GIVEN ROWS OF THIS SEAT. 6 by the template 'for every input the law returns true; each argument reads behind the call as it read before'; 0 by the template 'total and deterministic' (their statements: YtanccoahpcfbnaaDoorTotals.lean).
  GIVEN WITH THE SEED: the statements are not yours to turn. If you find one false, say at which input.
  Laid BY PROGRAM, IN A SANDBOX (cutbox-rows.mjs): the forced cells as the released guide's own fill.sh prints them over the translation 3fe2ab22e0f35c6a… (all of the seat's roots in one cut). By AI agents, Wed Nov 11 2026. No macro, syntax, notation, axiom, sorry.
-/
import Derived.Test.YtanccoahpcfbnaaDoorChecked
import GoSem.Claim
import GoSem.ClaimJoined
import GoSem.ClaimMapViews
import Derived.JoinedTies
import Derived.KernelRfl
namespace Go.Proofs.YtanccoahpcfbnaaDoor
/- THE CELL 'sum', in the pinned program and in every row, IS THE sha256 OF THE DUMP (.gsa) THAT YtanccoahpcfbnaaDoorProg.lean LOADS. Nothing in Lean hashes anything: it is a label: what it is worth is what the hold of that sum in a sandbox is worth. -/
noncomputable def Tryd.pinned : Pinned := { name := "ytanccoahpcfbnaadoor", sum := "3fe2ab22e0f35c6a77bd8eb1746c52cc9370c59cf3224f3d91969983bc72131c", checked := Tryd.checked }
namespace Rows
def none {H : Type} : Left H := { results := [], args := [] }

/- WHAT THE LISTED PACKAGE-LEVEL VARIABLES READ AS WHEN THE CALL BEGINS. Each datum BY PROGRAM (the guide's laid-datum.mjs) off the statement by which the dump's own 'gosem.cut.vars' lays the variable. In a bare row this is a premise. The card (YtanccoahpcfbnaaDoorCards.lean) ties it to the program's text. -/
def laid_selion_addr_errAddr {H : Type} : DataW H := .iface "*errors.errorString" (.ptr (.agg [.lit (.string [97, 100, 100, 114, 58, 32, 110, 111, 32, 97, 100, 100, 114, 101, 115, 115])]))
def laid_selion_addr_errSize {H : Type} : DataW H := .iface "*errors.errorString" (.ptr (.agg [.lit (.string [97, 100, 100, 114, 58, 32, 110, 111, 32, 115, 105, 122, 101])]))
def laid_selion_addr_errRef {H : Type} : DataW H := .iface "*errors.errorString" (.ptr (.agg [.lit (.string [97, 100, 100, 114, 58, 32, 110, 111, 32, 114, 101, 102, 101, 114, 101, 110, 99, 101])]))
def laid_selion_addr_worth {H : Type} : DataW H := .agg [.lit (.int .i64 4096), .lit (.int .i64 128), .lit (.int .i64 1)]

/-- 'selionlaw11.BumpTakes': WHATEVER THE INPUT: true; the input reads as it did. -/
def bumpTakesSpec : ChangeSpec := { name := "bumpTakes", fn := fun _ => fun
  | [d1, d2] => { results := [.lit (.bool true)], args := [d1, d2] }
  | _ => none }
def bumpTakesRow : OpenClaim := { program := "ytanccoahpcfbnaadoor", sum := "3fe2ab22e0f35c6a77bd8eb1746c52cc9370c59cf3224f3d91969983bc72131c", func := "selion/selionlaw11.BumpTakes", spec := "bumpTakes", inPlace := ["internal/reflectlite.TypeOf"], unfollowed := true, recurses := true, named := ["selion/addr.worth", "selion/addr.errAddr", "selion/addr.errSize", "selion/addr.errRef"], apart := false, laid := [("selion/addr.errAddr", laid_selion_addr_errAddr), ("selion/addr.errSize", laid_selion_addr_errSize), ("selion/addr.errRef", laid_selion_addr_errRef), ("selion/addr.worth", laid_selion_addr_worth)] }
def BumpTakesSaid : Prop := bumpTakesRow.holds Tryd.pinned (OpenSpec.ofChange bumpTakesSpec)

/-- ITS FALSE NEIGHBOUR: 'it returns false'. Refute it at one input. -/
def bumpTakesWrong : ChangeSpec := { name := "bumpTakes", fn := fun _ => fun
  | [d1, d2] => { results := [.lit (.bool false)], args := [d1, d2] }
  | _ => none }
def BumpTakesWrongFalsely : Prop := bumpTakesRow.holds Tryd.pinned (OpenSpec.ofChange bumpTakesWrong)

/-- 'selionlaw11.BumpApart': WHATEVER THE INPUT: true; the input reads as it did. -/
def bumpApartSpec : ChangeSpec := { name := "bumpApart", fn := fun _ => fun
  | [d1, d2, d3] => { results := [.lit (.bool true)], args := [d1, d2, d3] }
  | _ => none }
def bumpApartRow : OpenClaim := { program := "ytanccoahpcfbnaadoor", sum := "3fe2ab22e0f35c6a77bd8eb1746c52cc9370c59cf3224f3d91969983bc72131c", func := "selion/selionlaw11.BumpApart", spec := "bumpApart", inPlace := ["internal/reflectlite.TypeOf"], unfollowed := true, recurses := true, named := ["selion/addr.worth", "selion/addr.errAddr", "selion/addr.errSize", "selion/addr.errRef"], apart := false, laid := [("selion/addr.errAddr", laid_selion_addr_errAddr), ("selion/addr.errSize", laid_selion_addr_errSize), ("selion/addr.errRef", laid_selion_addr_errRef), ("selion/addr.worth", laid_selion_addr_worth)] }
def BumpApartSaid : Prop := bumpApartRow.holds Tryd.pinned (OpenSpec.ofChange bumpApartSpec)

/-- ITS FALSE NEIGHBOUR: 'it returns false'. Refute it at one input. -/
def bumpApartWrong : ChangeSpec := { name := "bumpApart", fn := fun _ => fun
  | [d1, d2, d3] => { results := [.lit (.bool false)], args := [d1, d2, d3] }
  | _ => none }
def BumpApartWrongFalsely : Prop := bumpApartRow.holds Tryd.pinned (OpenSpec.ofChange bumpApartWrong)

/-- 'selionlaw11.BumpFree': WHATEVER THE INPUT: true; the input reads as it did. -/
def bumpFreeSpec : ChangeSpec := { name := "bumpFree", fn := fun _ => fun
  | [d1, d2, d3, d4] => { results := [.lit (.bool true)], args := [d1, d2, d3, d4] }
  | _ => none }
def bumpFreeRow : OpenClaim := { program := "ytanccoahpcfbnaadoor", sum := "3fe2ab22e0f35c6a77bd8eb1746c52cc9370c59cf3224f3d91969983bc72131c", func := "selion/selionlaw11.BumpFree", spec := "bumpFree", inPlace := ["internal/reflectlite.TypeOf"], unfollowed := true, recurses := true, named := ["selion/addr.worth", "selion/addr.errAddr", "selion/addr.errSize", "selion/addr.errRef"], apart := false, laid := [("selion/addr.errAddr", laid_selion_addr_errAddr), ("selion/addr.errSize", laid_selion_addr_errSize), ("selion/addr.errRef", laid_selion_addr_errRef), ("selion/addr.worth", laid_selion_addr_worth)] }
def BumpFreeSaid : Prop := bumpFreeRow.holds Tryd.pinned (OpenSpec.ofChange bumpFreeSpec)

/-- ITS FALSE NEIGHBOUR: 'it returns false'. Refute it at one input. -/
def bumpFreeWrong : ChangeSpec := { name := "bumpFree", fn := fun _ => fun
  | [d1, d2, d3, d4] => { results := [.lit (.bool false)], args := [d1, d2, d3, d4] }
  | _ => none }
def BumpFreeWrongFalsely : Prop := bumpFreeRow.holds Tryd.pinned (OpenSpec.ofChange bumpFreeWrong)

/-- 'selionlaw11.BumpOpens': WHATEVER THE INPUT: true; the input reads as it did. -/
def bumpOpensSpec : ChangeSpec := { name := "bumpOpens", fn := fun _ => fun
  | [d1, d2, d3, d4] => { results := [.lit (.bool true)], args := [d1, d2, d3, d4] }
  | _ => none }
def bumpOpensRow : OpenClaim := { program := "ytanccoahpcfbnaadoor", sum := "3fe2ab22e0f35c6a77bd8eb1746c52cc9370c59cf3224f3d91969983bc72131c", func := "selion/selionlaw11.BumpOpens", spec := "bumpOpens", inPlace := ["internal/reflectlite.TypeOf"], unfollowed := true, recurses := true, named := ["selion/addr.worth", "selion/addr.errAddr", "selion/addr.errSize", "selion/addr.errRef"], apart := false, laid := [("selion/addr.errAddr", laid_selion_addr_errAddr), ("selion/addr.errSize", laid_selion_addr_errSize), ("selion/addr.errRef", laid_selion_addr_errRef), ("selion/addr.worth", laid_selion_addr_worth)] }
def BumpOpensSaid : Prop := bumpOpensRow.holds Tryd.pinned (OpenSpec.ofChange bumpOpensSpec)

/-- ITS FALSE NEIGHBOUR: 'it returns false'. Refute it at one input. -/
def bumpOpensWrong : ChangeSpec := { name := "bumpOpens", fn := fun _ => fun
  | [d1, d2, d3, d4] => { results := [.lit (.bool false)], args := [d1, d2, d3, d4] }
  | _ => none }
def BumpOpensWrongFalsely : Prop := bumpOpensRow.holds Tryd.pinned (OpenSpec.ofChange bumpOpensWrong)

/-- 'selionlaw11.BumpRooms': WHATEVER THE INPUT: true; the input reads as it did. -/
def bumpRoomsSpec : ChangeSpec := { name := "bumpRooms", fn := fun _ => fun
  | [d1, d2] => { results := [.lit (.bool true)], args := [d1, d2] }
  | _ => none }
def bumpRoomsRow : OpenClaim := { program := "ytanccoahpcfbnaadoor", sum := "3fe2ab22e0f35c6a77bd8eb1746c52cc9370c59cf3224f3d91969983bc72131c", func := "selion/selionlaw11.BumpRooms", spec := "bumpRooms", inPlace := ["internal/reflectlite.TypeOf"], unfollowed := true, recurses := true, named := ["selion/addr.worth", "selion/addr.errAddr", "selion/addr.errSize", "selion/addr.errRef"], apart := false, laid := [("selion/addr.errAddr", laid_selion_addr_errAddr), ("selion/addr.errSize", laid_selion_addr_errSize), ("selion/addr.errRef", laid_selion_addr_errRef), ("selion/addr.worth", laid_selion_addr_worth)] }
def BumpRoomsSaid : Prop := bumpRoomsRow.holds Tryd.pinned (OpenSpec.ofChange bumpRoomsSpec)

/-- ITS FALSE NEIGHBOUR: 'it returns false'. Refute it at one input. -/
def bumpRoomsWrong : ChangeSpec := { name := "bumpRooms", fn := fun _ => fun
  | [d1, d2] => { results := [.lit (.bool false)], args := [d1, d2] }
  | _ => none }
def BumpRoomsWrongFalsely : Prop := bumpRoomsRow.holds Tryd.pinned (OpenSpec.ofChange bumpRoomsWrong)

/-- 'selionlaw11.BumpHoles': WHATEVER THE INPUT: true; the input reads as it did. -/
def bumpHolesSpec : ChangeSpec := { name := "bumpHoles", fn := fun _ => fun
  | [d1, d2] => { results := [.lit (.bool true)], args := [d1, d2] }
  | _ => none }
def bumpHolesRow : OpenClaim := { program := "ytanccoahpcfbnaadoor", sum := "3fe2ab22e0f35c6a77bd8eb1746c52cc9370c59cf3224f3d91969983bc72131c", func := "selion/selionlaw11.BumpHoles", spec := "bumpHoles", inPlace := ["internal/reflectlite.TypeOf"], unfollowed := true, recurses := true, named := ["selion/addr.worth", "selion/addr.errAddr", "selion/addr.errSize", "selion/addr.errRef"], apart := false, laid := [("selion/addr.errAddr", laid_selion_addr_errAddr), ("selion/addr.errSize", laid_selion_addr_errSize), ("selion/addr.errRef", laid_selion_addr_errRef), ("selion/addr.worth", laid_selion_addr_worth)] }
def BumpHolesSaid : Prop := bumpHolesRow.holds Tryd.pinned (OpenSpec.ofChange bumpHolesSpec)

/-- ITS FALSE NEIGHBOUR: 'it returns false'. Refute it at one input. -/
def bumpHolesWrong : ChangeSpec := { name := "bumpHoles", fn := fun _ => fun
  | [d1, d2] => { results := [.lit (.bool false)], args := [d1, d2] }
  | _ => none }
def BumpHolesWrongFalsely : Prop := bumpHolesRow.holds Tryd.pinned (OpenSpec.ofChange bumpHolesWrong)

/- THE SECOND FORM. 'bulk': how many values and letters a reading holds, each counted each time it is reached (what is shared counts as often as it is met; a slice's spare places count too). A statement '..UptoSaid' is the law's where the arguments, and the package variables that the reading takes, are together of bulk at most 1048576: NARROWER than '..Said'. Prove '..Said' where nothing that the law and all that it calls make is longer than what came in: it says more and counts as full. Else prove '..UptoSaid'. A law counts once. -/
mutual
def uptoBulk {H : Type} : DataW H → Nat
  | .lit (.string bytes) => bytes.length + 1
  | .lit _ => 1
  | .nil => 1
  | .ptr d => uptoBulk d + 1
  | .slice elems spare => uptoBulkAll elems + uptoBulkAll spare + 1
  | .agg parts => uptoBulkAll parts + 1
  | .iface _ d => uptoBulk d + 1
  | .map entries => uptoBulkEntries entries + 1
  | .held _ => 1
def uptoBulkAll {H : Type} : List (DataW H) → Nat
  | [] => 0
  | d :: r => uptoBulk d + uptoBulkAll r
def uptoBulkEntries {H : Type} : List (Lit × DataW H) → Nat
  | [] => 0
  | x :: r => uptoBulkEntry x + uptoBulkEntries r
def uptoBulkEntry {H : Type} : Lit × DataW H → Nat
  | (.string bytes, d) => bytes.length + uptoBulk d + 1
  | (_, d) => uptoBulk d + 1
 end
def uptoSmall : (H : Type) → List (DataW H) → Bool := fun _ ds => decide (uptoBulkAll ds ≤ 1048576)
def OpenSpec.upto (s : _root_.Go.ChangeSpec) : _root_.Go.OpenSpec := { _root_.Go.OpenSpec.ofChange s with cond := some uptoSmall }

/-- 'selionlaw11.BumpTakes', WHERE WHAT IT READS IS OF BULK AT MOST 1048576: true; the input reads as it did. -/
def bumpTakesUptoRow : OpenClaim := { program := "ytanccoahpcfbnaadoor", sum := "3fe2ab22e0f35c6a77bd8eb1746c52cc9370c59cf3224f3d91969983bc72131c", func := "selion/selionlaw11.BumpTakes", spec := "bumpTakes", inPlace := ["internal/reflectlite.TypeOf"], unfollowed := true, recurses := true, named := ["selion/addr.worth", "selion/addr.errAddr", "selion/addr.errSize", "selion/addr.errRef"], apart := false, laid := [("selion/addr.errAddr", laid_selion_addr_errAddr), ("selion/addr.errSize", laid_selion_addr_errSize), ("selion/addr.errRef", laid_selion_addr_errRef), ("selion/addr.worth", laid_selion_addr_worth)], narrowed := true }
def BumpTakesUptoSaid : Prop := bumpTakesUptoRow.holds Tryd.pinned (OpenSpec.upto bumpTakesSpec)

/-- 'selionlaw11.BumpApart', WHERE WHAT IT READS IS OF BULK AT MOST 1048576: true; the input reads as it did. -/
def bumpApartUptoRow : OpenClaim := { program := "ytanccoahpcfbnaadoor", sum := "3fe2ab22e0f35c6a77bd8eb1746c52cc9370c59cf3224f3d91969983bc72131c", func := "selion/selionlaw11.BumpApart", spec := "bumpApart", inPlace := ["internal/reflectlite.TypeOf"], unfollowed := true, recurses := true, named := ["selion/addr.worth", "selion/addr.errAddr", "selion/addr.errSize", "selion/addr.errRef"], apart := false, laid := [("selion/addr.errAddr", laid_selion_addr_errAddr), ("selion/addr.errSize", laid_selion_addr_errSize), ("selion/addr.errRef", laid_selion_addr_errRef), ("selion/addr.worth", laid_selion_addr_worth)], narrowed := true }
def BumpApartUptoSaid : Prop := bumpApartUptoRow.holds Tryd.pinned (OpenSpec.upto bumpApartSpec)

/-- 'selionlaw11.BumpFree', WHERE WHAT IT READS IS OF BULK AT MOST 1048576: true; the input reads as it did. -/
def bumpFreeUptoRow : OpenClaim := { program := "ytanccoahpcfbnaadoor", sum := "3fe2ab22e0f35c6a77bd8eb1746c52cc9370c59cf3224f3d91969983bc72131c", func := "selion/selionlaw11.BumpFree", spec := "bumpFree", inPlace := ["internal/reflectlite.TypeOf"], unfollowed := true, recurses := true, named := ["selion/addr.worth", "selion/addr.errAddr", "selion/addr.errSize", "selion/addr.errRef"], apart := false, laid := [("selion/addr.errAddr", laid_selion_addr_errAddr), ("selion/addr.errSize", laid_selion_addr_errSize), ("selion/addr.errRef", laid_selion_addr_errRef), ("selion/addr.worth", laid_selion_addr_worth)], narrowed := true }
def BumpFreeUptoSaid : Prop := bumpFreeUptoRow.holds Tryd.pinned (OpenSpec.upto bumpFreeSpec)

/-- 'selionlaw11.BumpOpens', WHERE WHAT IT READS IS OF BULK AT MOST 1048576: true; the input reads as it did. -/
def bumpOpensUptoRow : OpenClaim := { program := "ytanccoahpcfbnaadoor", sum := "3fe2ab22e0f35c6a77bd8eb1746c52cc9370c59cf3224f3d91969983bc72131c", func := "selion/selionlaw11.BumpOpens", spec := "bumpOpens", inPlace := ["internal/reflectlite.TypeOf"], unfollowed := true, recurses := true, named := ["selion/addr.worth", "selion/addr.errAddr", "selion/addr.errSize", "selion/addr.errRef"], apart := false, laid := [("selion/addr.errAddr", laid_selion_addr_errAddr), ("selion/addr.errSize", laid_selion_addr_errSize), ("selion/addr.errRef", laid_selion_addr_errRef), ("selion/addr.worth", laid_selion_addr_worth)], narrowed := true }
def BumpOpensUptoSaid : Prop := bumpOpensUptoRow.holds Tryd.pinned (OpenSpec.upto bumpOpensSpec)

/-- 'selionlaw11.BumpRooms', WHERE WHAT IT READS IS OF BULK AT MOST 1048576: true; the input reads as it did. -/
def bumpRoomsUptoRow : OpenClaim := { program := "ytanccoahpcfbnaadoor", sum := "3fe2ab22e0f35c6a77bd8eb1746c52cc9370c59cf3224f3d91969983bc72131c", func := "selion/selionlaw11.BumpRooms", spec := "bumpRooms", inPlace := ["internal/reflectlite.TypeOf"], unfollowed := true, recurses := true, named := ["selion/addr.worth", "selion/addr.errAddr", "selion/addr.errSize", "selion/addr.errRef"], apart := false, laid := [("selion/addr.errAddr", laid_selion_addr_errAddr), ("selion/addr.errSize", laid_selion_addr_errSize), ("selion/addr.errRef", laid_selion_addr_errRef), ("selion/addr.worth", laid_selion_addr_worth)], narrowed := true }
def BumpRoomsUptoSaid : Prop := bumpRoomsUptoRow.holds Tryd.pinned (OpenSpec.upto bumpRoomsSpec)

/-- 'selionlaw11.BumpHoles', WHERE WHAT IT READS IS OF BULK AT MOST 1048576: true; the input reads as it did. -/
def bumpHolesUptoRow : OpenClaim := { program := "ytanccoahpcfbnaadoor", sum := "3fe2ab22e0f35c6a77bd8eb1746c52cc9370c59cf3224f3d91969983bc72131c", func := "selion/selionlaw11.BumpHoles", spec := "bumpHoles", inPlace := ["internal/reflectlite.TypeOf"], unfollowed := true, recurses := true, named := ["selion/addr.worth", "selion/addr.errAddr", "selion/addr.errSize", "selion/addr.errRef"], apart := false, laid := [("selion/addr.errAddr", laid_selion_addr_errAddr), ("selion/addr.errSize", laid_selion_addr_errSize), ("selion/addr.errRef", laid_selion_addr_errRef), ("selion/addr.worth", laid_selion_addr_worth)], narrowed := true }
def BumpHolesUptoSaid : Prop := bumpHolesUptoRow.holds Tryd.pinned (OpenSpec.upto bumpHolesSpec)

end Rows
end Go.Proofs.YtanccoahpcfbnaaDoor
