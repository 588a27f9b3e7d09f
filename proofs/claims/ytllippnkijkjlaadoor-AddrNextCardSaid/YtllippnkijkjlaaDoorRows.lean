/-
  NARROWER THAN 'FOR EVERY INPUT', by the rows' own cells (each row's printed sentence says how): AddrPlaces: laid · AddrBack: laid · AddrSizes: laid · AddrGranules: laid · AddrSpans: laid · AddrRounds: laid · AddrNext: laid · AddrRefs: laid.
  DERIVED. THE GIVEN ROWS OF THIS SEAT. 8 by the template 'for every input the law returns true; each argument reads behind the call as it read before'; 0 by the template 'total and deterministic' (their statements: YtllippnkijkjlaaDoorTotals.lean).
  GIVEN WITH THE SEED: the statements are not yours to turn. If you find one false, say at which input.
  Laid BY PROGRAM, IN A SANDBOX (cutbox-rows.mjs): the forced cells as the released guide's own fill.sh prints them over the translation 9367e1217d096b12… (all of the seat's roots in one cut). By AI agents, Wed Nov 11 2026. No macro, syntax, notation, axiom, sorry.
-/
import Derived.Test.YtllippnkijkjlaaDoorChecked
import GoSem.Claim
import GoSem.ClaimJoined
import GoSem.ClaimMapViews
import Derived.JoinedTies
import Derived.KernelRfl
namespace Go.Proofs.YtllippnkijkjlaaDoor
/- THE CELL 'sum', in the pinned program and in every row, IS THE sha256 OF THE DUMP (.gsa) THAT YtllippnkijkjlaaDoorProg.lean LOADS. Nothing in Lean hashes anything: it is a label: what it is worth is what the hold of that sum in a sandbox is worth. -/
noncomputable def Tryd.pinned : Pinned := { name := "ytllippnkijkjlaadoor", sum := "9367e1217d096b122043a3b72973d6edffbe9fcbeb48c0d3b851f324d691dda2", checked := Tryd.checked }
namespace Rows
def none {H : Type} : Left H := { results := [], args := [] }

/- WHAT THE LISTED PACKAGE-LEVEL VARIABLES READ AS WHEN THE CALL BEGINS. Each datum BY PROGRAM (the guide's laid-datum.mjs) off the statement by which the dump's own 'gosem.cut.vars' lays the variable. In a bare row this is a premise. The card (YtllippnkijkjlaaDoorCards.lean) ties it to the program's text. -/
def laid_selion_addr_errAddr {H : Type} : DataW H := .iface "*errors.errorString" (.ptr (.agg [.lit (.string [97, 100, 100, 114, 58, 32, 110, 111, 32, 97, 100, 100, 114, 101, 115, 115])]))
def laid_selion_addr_errSize {H : Type} : DataW H := .iface "*errors.errorString" (.ptr (.agg [.lit (.string [97, 100, 100, 114, 58, 32, 110, 111, 32, 115, 105, 122, 101])]))
def laid_selion_addr_errRef {H : Type} : DataW H := .iface "*errors.errorString" (.ptr (.agg [.lit (.string [97, 100, 100, 114, 58, 32, 110, 111, 32, 114, 101, 102, 101, 114, 101, 110, 99, 101])]))
def laid_selion_addr_worth {H : Type} : DataW H := .agg [.lit (.int .i64 4096), .lit (.int .i64 128), .lit (.int .i64 1)]
def laid_selion_addr_sizes {H : Type} : DataW H := .agg [.agg [.lit (.int .i64 1), .lit (.int .i64 128)], .agg [.lit (.int .i64 2), .lit (.int .i64 2048)], .agg [.lit (.int .i64 3), .lit (.int .i64 131072)]]

/-- 'selionlaw01.AddrPlaces': WHATEVER THE INPUT: true; the input reads as it did. -/
def addrPlacesSpec : ChangeSpec := { name := "addrPlaces", fn := fun _ => fun
  | [d1, d2, d3, d4] => { results := [.lit (.bool true)], args := [d1, d2, d3, d4] }
  | _ => none }
def addrPlacesRow : OpenClaim := { program := "ytllippnkijkjlaadoor", sum := "9367e1217d096b122043a3b72973d6edffbe9fcbeb48c0d3b851f324d691dda2", func := "selion/selionlaw01.AddrPlaces", spec := "addrPlaces", inPlace := ["internal/reflectlite.TypeOf"], unfollowed := true, recurses := true, named := ["selion/addr.errAddr", "selion/addr.errSize", "selion/addr.errRef", "selion/addr.worth", "selion/addr.sizes"], apart := false, laid := [("selion/addr.errAddr", laid_selion_addr_errAddr), ("selion/addr.errSize", laid_selion_addr_errSize), ("selion/addr.errRef", laid_selion_addr_errRef), ("selion/addr.worth", laid_selion_addr_worth), ("selion/addr.sizes", laid_selion_addr_sizes)] }
def AddrPlacesSaid : Prop := addrPlacesRow.holds Tryd.pinned (OpenSpec.ofChange addrPlacesSpec)

/-- ITS FALSE NEIGHBOUR: 'it returns false'. Refute it at one input. -/
def addrPlacesWrong : ChangeSpec := { name := "addrPlaces", fn := fun _ => fun
  | [d1, d2, d3, d4] => { results := [.lit (.bool false)], args := [d1, d2, d3, d4] }
  | _ => none }
def AddrPlacesWrongFalsely : Prop := addrPlacesRow.holds Tryd.pinned (OpenSpec.ofChange addrPlacesWrong)

/-- 'selionlaw01.AddrBack': WHATEVER THE INPUT: true; the input reads as it did. -/
def addrBackSpec : ChangeSpec := { name := "addrBack", fn := fun _ => fun
  | [d1, d2, d3, d4] => { results := [.lit (.bool true)], args := [d1, d2, d3, d4] }
  | _ => none }
def addrBackRow : OpenClaim := { program := "ytllippnkijkjlaadoor", sum := "9367e1217d096b122043a3b72973d6edffbe9fcbeb48c0d3b851f324d691dda2", func := "selion/selionlaw01.AddrBack", spec := "addrBack", inPlace := ["internal/reflectlite.TypeOf"], unfollowed := true, recurses := true, named := ["selion/addr.errAddr", "selion/addr.errSize", "selion/addr.errRef", "selion/addr.worth", "selion/addr.sizes"], apart := false, laid := [("selion/addr.errAddr", laid_selion_addr_errAddr), ("selion/addr.errSize", laid_selion_addr_errSize), ("selion/addr.errRef", laid_selion_addr_errRef), ("selion/addr.worth", laid_selion_addr_worth), ("selion/addr.sizes", laid_selion_addr_sizes)] }
def AddrBackSaid : Prop := addrBackRow.holds Tryd.pinned (OpenSpec.ofChange addrBackSpec)

/-- ITS FALSE NEIGHBOUR: 'it returns false'. Refute it at one input. -/
def addrBackWrong : ChangeSpec := { name := "addrBack", fn := fun _ => fun
  | [d1, d2, d3, d4] => { results := [.lit (.bool false)], args := [d1, d2, d3, d4] }
  | _ => none }
def AddrBackWrongFalsely : Prop := addrBackRow.holds Tryd.pinned (OpenSpec.ofChange addrBackWrong)

/-- 'selionlaw01.AddrSizes': WHATEVER THE INPUT: true; the input reads as it did. -/
def addrSizesSpec : ChangeSpec := { name := "addrSizes", fn := fun _ => fun
  | [d] => { results := [.lit (.bool true)], args := [d] }
  | _ => none }
def addrSizesRow : OpenClaim := { program := "ytllippnkijkjlaadoor", sum := "9367e1217d096b122043a3b72973d6edffbe9fcbeb48c0d3b851f324d691dda2", func := "selion/selionlaw01.AddrSizes", spec := "addrSizes", inPlace := ["internal/reflectlite.TypeOf"], unfollowed := true, recurses := true, named := ["selion/addr.errAddr", "selion/addr.errSize", "selion/addr.errRef", "selion/addr.worth", "selion/addr.sizes"], apart := false, laid := [("selion/addr.errAddr", laid_selion_addr_errAddr), ("selion/addr.errSize", laid_selion_addr_errSize), ("selion/addr.errRef", laid_selion_addr_errRef), ("selion/addr.worth", laid_selion_addr_worth), ("selion/addr.sizes", laid_selion_addr_sizes)] }
def AddrSizesSaid : Prop := addrSizesRow.holds Tryd.pinned (OpenSpec.ofChange addrSizesSpec)

/-- ITS FALSE NEIGHBOUR: 'it returns false'. Refute it at one input. -/
def addrSizesWrong : ChangeSpec := { name := "addrSizes", fn := fun _ => fun
  | [d] => { results := [.lit (.bool false)], args := [d] }
  | _ => none }
def AddrSizesWrongFalsely : Prop := addrSizesRow.holds Tryd.pinned (OpenSpec.ofChange addrSizesWrong)

/-- 'selionlaw01.AddrGranules': WHATEVER THE INPUT: true; the input reads as it did. -/
def addrGranulesSpec : ChangeSpec := { name := "addrGranules", fn := fun _ => fun
  | [d1, d2] => { results := [.lit (.bool true)], args := [d1, d2] }
  | _ => none }
def addrGranulesRow : OpenClaim := { program := "ytllippnkijkjlaadoor", sum := "9367e1217d096b122043a3b72973d6edffbe9fcbeb48c0d3b851f324d691dda2", func := "selion/selionlaw01.AddrGranules", spec := "addrGranules", inPlace := ["internal/reflectlite.TypeOf"], unfollowed := true, recurses := true, named := ["selion/addr.errAddr", "selion/addr.errSize", "selion/addr.errRef", "selion/addr.worth", "selion/addr.sizes"], apart := false, laid := [("selion/addr.errAddr", laid_selion_addr_errAddr), ("selion/addr.errSize", laid_selion_addr_errSize), ("selion/addr.errRef", laid_selion_addr_errRef), ("selion/addr.worth", laid_selion_addr_worth), ("selion/addr.sizes", laid_selion_addr_sizes)] }
def AddrGranulesSaid : Prop := addrGranulesRow.holds Tryd.pinned (OpenSpec.ofChange addrGranulesSpec)

/-- ITS FALSE NEIGHBOUR: 'it returns false'. Refute it at one input. -/
def addrGranulesWrong : ChangeSpec := { name := "addrGranules", fn := fun _ => fun
  | [d1, d2] => { results := [.lit (.bool false)], args := [d1, d2] }
  | _ => none }
def AddrGranulesWrongFalsely : Prop := addrGranulesRow.holds Tryd.pinned (OpenSpec.ofChange addrGranulesWrong)

/-- 'selionlaw01.AddrSpans': WHATEVER THE INPUT: true; the input reads as it did. -/
def addrSpansSpec : ChangeSpec := { name := "addrSpans", fn := fun _ => fun
  | [d1, d2] => { results := [.lit (.bool true)], args := [d1, d2] }
  | _ => none }
def addrSpansRow : OpenClaim := { program := "ytllippnkijkjlaadoor", sum := "9367e1217d096b122043a3b72973d6edffbe9fcbeb48c0d3b851f324d691dda2", func := "selion/selionlaw01.AddrSpans", spec := "addrSpans", inPlace := ["internal/reflectlite.TypeOf"], unfollowed := true, recurses := true, named := ["selion/addr.errAddr", "selion/addr.errSize", "selion/addr.errRef", "selion/addr.worth", "selion/addr.sizes"], apart := false, laid := [("selion/addr.errAddr", laid_selion_addr_errAddr), ("selion/addr.errSize", laid_selion_addr_errSize), ("selion/addr.errRef", laid_selion_addr_errRef), ("selion/addr.worth", laid_selion_addr_worth), ("selion/addr.sizes", laid_selion_addr_sizes)] }
def AddrSpansSaid : Prop := addrSpansRow.holds Tryd.pinned (OpenSpec.ofChange addrSpansSpec)

/-- ITS FALSE NEIGHBOUR: 'it returns false'. Refute it at one input. -/
def addrSpansWrong : ChangeSpec := { name := "addrSpans", fn := fun _ => fun
  | [d1, d2] => { results := [.lit (.bool false)], args := [d1, d2] }
  | _ => none }
def AddrSpansWrongFalsely : Prop := addrSpansRow.holds Tryd.pinned (OpenSpec.ofChange addrSpansWrong)

/-- 'selionlaw01.AddrRounds': WHATEVER THE INPUT: true; the input reads as it did. -/
def addrRoundsSpec : ChangeSpec := { name := "addrRounds", fn := fun _ => fun
  | [d] => { results := [.lit (.bool true)], args := [d] }
  | _ => none }
def addrRoundsRow : OpenClaim := { program := "ytllippnkijkjlaadoor", sum := "9367e1217d096b122043a3b72973d6edffbe9fcbeb48c0d3b851f324d691dda2", func := "selion/selionlaw01.AddrRounds", spec := "addrRounds", inPlace := ["internal/reflectlite.TypeOf"], unfollowed := true, recurses := true, named := ["selion/addr.errAddr", "selion/addr.errSize", "selion/addr.errRef", "selion/addr.worth", "selion/addr.sizes"], apart := false, laid := [("selion/addr.errAddr", laid_selion_addr_errAddr), ("selion/addr.errSize", laid_selion_addr_errSize), ("selion/addr.errRef", laid_selion_addr_errRef), ("selion/addr.worth", laid_selion_addr_worth), ("selion/addr.sizes", laid_selion_addr_sizes)] }
def AddrRoundsSaid : Prop := addrRoundsRow.holds Tryd.pinned (OpenSpec.ofChange addrRoundsSpec)

/-- ITS FALSE NEIGHBOUR: 'it returns false'. Refute it at one input. -/
def addrRoundsWrong : ChangeSpec := { name := "addrRounds", fn := fun _ => fun
  | [d] => { results := [.lit (.bool false)], args := [d] }
  | _ => none }
def AddrRoundsWrongFalsely : Prop := addrRoundsRow.holds Tryd.pinned (OpenSpec.ofChange addrRoundsWrong)

/-- 'selionlaw01.AddrNext': WHATEVER THE INPUT: true; the input reads as it did. -/
def addrNextSpec : ChangeSpec := { name := "addrNext", fn := fun _ => fun
  | [d1, d2] => { results := [.lit (.bool true)], args := [d1, d2] }
  | _ => none }
def addrNextRow : OpenClaim := { program := "ytllippnkijkjlaadoor", sum := "9367e1217d096b122043a3b72973d6edffbe9fcbeb48c0d3b851f324d691dda2", func := "selion/selionlaw01.AddrNext", spec := "addrNext", inPlace := ["internal/reflectlite.TypeOf"], unfollowed := true, recurses := true, named := ["selion/addr.errAddr", "selion/addr.errSize", "selion/addr.errRef", "selion/addr.worth", "selion/addr.sizes"], apart := false, laid := [("selion/addr.errAddr", laid_selion_addr_errAddr), ("selion/addr.errSize", laid_selion_addr_errSize), ("selion/addr.errRef", laid_selion_addr_errRef), ("selion/addr.worth", laid_selion_addr_worth), ("selion/addr.sizes", laid_selion_addr_sizes)] }
def AddrNextSaid : Prop := addrNextRow.holds Tryd.pinned (OpenSpec.ofChange addrNextSpec)

/-- ITS FALSE NEIGHBOUR: 'it returns false'. Refute it at one input. -/
def addrNextWrong : ChangeSpec := { name := "addrNext", fn := fun _ => fun
  | [d1, d2] => { results := [.lit (.bool false)], args := [d1, d2] }
  | _ => none }
def AddrNextWrongFalsely : Prop := addrNextRow.holds Tryd.pinned (OpenSpec.ofChange addrNextWrong)

/-- 'selionlaw01.AddrRefs': WHATEVER THE INPUT: true; the input reads as it did. -/
def addrRefsSpec : ChangeSpec := { name := "addrRefs", fn := fun _ => fun
  | [d1, d2, d3] => { results := [.lit (.bool true)], args := [d1, d2, d3] }
  | _ => none }
def addrRefsRow : OpenClaim := { program := "ytllippnkijkjlaadoor", sum := "9367e1217d096b122043a3b72973d6edffbe9fcbeb48c0d3b851f324d691dda2", func := "selion/selionlaw01.AddrRefs", spec := "addrRefs", inPlace := ["internal/reflectlite.TypeOf"], unfollowed := true, recurses := true, named := ["selion/addr.errAddr", "selion/addr.errSize", "selion/addr.errRef", "selion/addr.worth", "selion/addr.sizes"], apart := false, laid := [("selion/addr.errAddr", laid_selion_addr_errAddr), ("selion/addr.errSize", laid_selion_addr_errSize), ("selion/addr.errRef", laid_selion_addr_errRef), ("selion/addr.worth", laid_selion_addr_worth), ("selion/addr.sizes", laid_selion_addr_sizes)] }
def AddrRefsSaid : Prop := addrRefsRow.holds Tryd.pinned (OpenSpec.ofChange addrRefsSpec)

/-- ITS FALSE NEIGHBOUR: 'it returns false'. Refute it at one input. -/
def addrRefsWrong : ChangeSpec := { name := "addrRefs", fn := fun _ => fun
  | [d1, d2, d3] => { results := [.lit (.bool false)], args := [d1, d2, d3] }
  | _ => none }
def AddrRefsWrongFalsely : Prop := addrRefsRow.holds Tryd.pinned (OpenSpec.ofChange addrRefsWrong)

/- THE SECOND FORM. 'bulk': how many values and letters a reading holds, each counted each time it is reached (what is shared counts as often as it is met; a slice's spare places count too). A statement '..UptoSaid' is the law's where the arguments, and the package variables that the reading takes, are together of bulk at most 1048576: NARROWER than '..Said'. Prove '..Said' where nothing that the law and all that it calls make is longer than what came in: it says more and counts as full. Else prove '..UptoSaid'. A law counts once. -/
mutual
def uptoBulk {H : Type} : DataW H → Nat
  | .lit (.string bytes) => bytes.length + 1
  | .lit _ => 1
  | .nil => 1
  | .ptr d => uptoBulk d + 1
  | .slice elems spare => uptoBulkAll elems + uptoBulkAll spare + 1
  | .agg parts => uptoBulkAll parts + 1
  | .iface _ d => uptoBulk d + 1
  | .map entries => uptoBulkEntries entries + 1
  | .held _ => 1
def uptoBulkAll {H : Type} : List (DataW H) → Nat
  | [] => 0
  | d :: r => uptoBulk d + uptoBulkAll r
def uptoBulkEntries {H : Type} : List (Lit × DataW H) → Nat
  | [] => 0
  | x :: r => uptoBulkEntry x + uptoBulkEntries r
def uptoBulkEntry {H : Type} : Lit × DataW H → Nat
  | (.string bytes, d) => bytes.length + uptoBulk d + 1
  | (_, d) => uptoBulk d + 1
 end
def uptoSmall : (H : Type) → List (DataW H) → Bool := fun _ ds => decide (uptoBulkAll ds ≤ 1048576)
def OpenSpec.upto (s : _root_.Go.ChangeSpec) : _root_.Go.OpenSpec := { _root_.Go.OpenSpec.ofChange s with cond := some uptoSmall }

/-- 'selionlaw01.AddrPlaces', WHERE WHAT IT READS IS OF BULK AT MOST 1048576: true; the input reads as it did. -/
def addrPlacesUptoRow : OpenClaim := { program := "ytllippnkijkjlaadoor", sum := "9367e1217d096b122043a3b72973d6edffbe9fcbeb48c0d3b851f324d691dda2", func := "selion/selionlaw01.AddrPlaces", spec := "addrPlaces", inPlace := ["internal/reflectlite.TypeOf"], unfollowed := true, recurses := true, named := ["selion/addr.errAddr", "selion/addr.errSize", "selion/addr.errRef", "selion/addr.worth", "selion/addr.sizes"], apart := false, laid := [("selion/addr.errAddr", laid_selion_addr_errAddr), ("selion/addr.errSize", laid_selion_addr_errSize), ("selion/addr.errRef", laid_selion_addr_errRef), ("selion/addr.worth", laid_selion_addr_worth), ("selion/addr.sizes", laid_selion_addr_sizes)], narrowed := true }
def AddrPlacesUptoSaid : Prop := addrPlacesUptoRow.holds Tryd.pinned (OpenSpec.upto addrPlacesSpec)

/-- 'selionlaw01.AddrBack', WHERE WHAT IT READS IS OF BULK AT MOST 1048576: true; the input reads as it did. -/
def addrBackUptoRow : OpenClaim := { program := "ytllippnkijkjlaadoor", sum := "9367e1217d096b122043a3b72973d6edffbe9fcbeb48c0d3b851f324d691dda2", func := "selion/selionlaw01.AddrBack", spec := "addrBack", inPlace := ["internal/reflectlite.TypeOf"], unfollowed := true, recurses := true, named := ["selion/addr.errAddr", "selion/addr.errSize", "selion/addr.errRef", "selion/addr.worth", "selion/addr.sizes"], apart := false, laid := [("selion/addr.errAddr", laid_selion_addr_errAddr), ("selion/addr.errSize", laid_selion_addr_errSize), ("selion/addr.errRef", laid_selion_addr_errRef), ("selion/addr.worth", laid_selion_addr_worth), ("selion/addr.sizes", laid_selion_addr_sizes)], narrowed := true }
def AddrBackUptoSaid : Prop := addrBackUptoRow.holds Tryd.pinned (OpenSpec.upto addrBackSpec)

/-- 'selionlaw01.AddrSizes', WHERE WHAT IT READS IS OF BULK AT MOST 1048576: true; the input reads as it did. -/
def addrSizesUptoRow : OpenClaim := { program := "ytllippnkijkjlaadoor", sum := "9367e1217d096b122043a3b72973d6edffbe9fcbeb48c0d3b851f324d691dda2", func := "selion/selionlaw01.AddrSizes", spec := "addrSizes", inPlace := ["internal/reflectlite.TypeOf"], unfollowed := true, recurses := true, named := ["selion/addr.errAddr", "selion/addr.errSize", "selion/addr.errRef", "selion/addr.worth", "selion/addr.sizes"], apart := false, laid := [("selion/addr.errAddr", laid_selion_addr_errAddr), ("selion/addr.errSize", laid_selion_addr_errSize), ("selion/addr.errRef", laid_selion_addr_errRef), ("selion/addr.worth", laid_selion_addr_worth), ("selion/addr.sizes", laid_selion_addr_sizes)], narrowed := true }
def AddrSizesUptoSaid : Prop := addrSizesUptoRow.holds Tryd.pinned (OpenSpec.upto addrSizesSpec)

/-- 'selionlaw01.AddrGranules', WHERE WHAT IT READS IS OF BULK AT MOST 1048576: true; the input reads as it did. -/
def addrGranulesUptoRow : OpenClaim := { program := "ytllippnkijkjlaadoor", sum := "9367e1217d096b122043a3b72973d6edffbe9fcbeb48c0d3b851f324d691dda2", func := "selion/selionlaw01.AddrGranules", spec := "addrGranules", inPlace := ["internal/reflectlite.TypeOf"], unfollowed := true, recurses := true, named := ["selion/addr.errAddr", "selion/addr.errSize", "selion/addr.errRef", "selion/addr.worth", "selion/addr.sizes"], apart := false, laid := [("selion/addr.errAddr", laid_selion_addr_errAddr), ("selion/addr.errSize", laid_selion_addr_errSize), ("selion/addr.errRef", laid_selion_addr_errRef), ("selion/addr.worth", laid_selion_addr_worth), ("selion/addr.sizes", laid_selion_addr_sizes)], narrowed := true }
def AddrGranulesUptoSaid : Prop := addrGranulesUptoRow.holds Tryd.pinned (OpenSpec.upto addrGranulesSpec)

/-- 'selionlaw01.AddrSpans', WHERE WHAT IT READS IS OF BULK AT MOST 1048576: true; the input reads as it did. -/
def addrSpansUptoRow : OpenClaim := { program := "ytllippnkijkjlaadoor", sum := "9367e1217d096b122043a3b72973d6edffbe9fcbeb48c0d3b851f324d691dda2", func := "selion/selionlaw01.AddrSpans", spec := "addrSpans", inPlace := ["internal/reflectlite.TypeOf"], unfollowed := true, recurses := true, named := ["selion/addr.errAddr", "selion/addr.errSize", "selion/addr.errRef", "selion/addr.worth", "selion/addr.sizes"], apart := false, laid := [("selion/addr.errAddr", laid_selion_addr_errAddr), ("selion/addr.errSize", laid_selion_addr_errSize), ("selion/addr.errRef", laid_selion_addr_errRef), ("selion/addr.worth", laid_selion_addr_worth), ("selion/addr.sizes", laid_selion_addr_sizes)], narrowed := true }
def AddrSpansUptoSaid : Prop := addrSpansUptoRow.holds Tryd.pinned (OpenSpec.upto addrSpansSpec)

/-- 'selionlaw01.AddrRounds', WHERE WHAT IT READS IS OF BULK AT MOST 1048576: true; the input reads as it did. -/
def addrRoundsUptoRow : OpenClaim := { program := "ytllippnkijkjlaadoor", sum := "9367e1217d096b122043a3b72973d6edffbe9fcbeb48c0d3b851f324d691dda2", func := "selion/selionlaw01.AddrRounds", spec := "addrRounds", inPlace := ["internal/reflectlite.TypeOf"], unfollowed := true, recurses := true, named := ["selion/addr.errAddr", "selion/addr.errSize", "selion/addr.errRef", "selion/addr.worth", "selion/addr.sizes"], apart := false, laid := [("selion/addr.errAddr", laid_selion_addr_errAddr), ("selion/addr.errSize", laid_selion_addr_errSize), ("selion/addr.errRef", laid_selion_addr_errRef), ("selion/addr.worth", laid_selion_addr_worth), ("selion/addr.sizes", laid_selion_addr_sizes)], narrowed := true }
def AddrRoundsUptoSaid : Prop := addrRoundsUptoRow.holds Tryd.pinned (OpenSpec.upto addrRoundsSpec)

/-- 'selionlaw01.AddrNext', WHERE WHAT IT READS IS OF BULK AT MOST 1048576: true; the input reads as it did. -/
def addrNextUptoRow : OpenClaim := { program := "ytllippnkijkjlaadoor", sum := "9367e1217d096b122043a3b72973d6edffbe9fcbeb48c0d3b851f324d691dda2", func := "selion/selionlaw01.AddrNext", spec := "addrNext", inPlace := ["internal/reflectlite.TypeOf"], unfollowed := true, recurses := true, named := ["selion/addr.errAddr", "selion/addr.errSize", "selion/addr.errRef", "selion/addr.worth", "selion/addr.sizes"], apart := false, laid := [("selion/addr.errAddr", laid_selion_addr_errAddr), ("selion/addr.errSize", laid_selion_addr_errSize), ("selion/addr.errRef", laid_selion_addr_errRef), ("selion/addr.worth", laid_selion_addr_worth), ("selion/addr.sizes", laid_selion_addr_sizes)], narrowed := true }
def AddrNextUptoSaid : Prop := addrNextUptoRow.holds Tryd.pinned (OpenSpec.upto addrNextSpec)

/-- 'selionlaw01.AddrRefs', WHERE WHAT IT READS IS OF BULK AT MOST 1048576: true; the input reads as it did. -/
def addrRefsUptoRow : OpenClaim := { program := "ytllippnkijkjlaadoor", sum := "9367e1217d096b122043a3b72973d6edffbe9fcbeb48c0d3b851f324d691dda2", func := "selion/selionlaw01.AddrRefs", spec := "addrRefs", inPlace := ["internal/reflectlite.TypeOf"], unfollowed := true, recurses := true, named := ["selion/addr.errAddr", "selion/addr.errSize", "selion/addr.errRef", "selion/addr.worth", "selion/addr.sizes"], apart := false, laid := [("selion/addr.errAddr", laid_selion_addr_errAddr), ("selion/addr.errSize", laid_selion_addr_errSize), ("selion/addr.errRef", laid_selion_addr_errRef), ("selion/addr.worth", laid_selion_addr_worth), ("selion/addr.sizes", laid_selion_addr_sizes)], narrowed := true }
def AddrRefsUptoSaid : Prop := addrRefsUptoRow.holds Tryd.pinned (OpenSpec.upto addrRefsSpec)

end Rows
end Go.Proofs.YtllippnkijkjlaaDoor
