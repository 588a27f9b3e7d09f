/-
  NARROWER THAN 'FOR EVERY INPUT', by the rows' own cells (each row's printed sentence says how): ArenaNew: laid · ArenaPlays: laid · ArenaBack: laid · ArenaWords: laid · ArenaZeroes: laid · ArenaApart: laid · ArenaParts: laid.
  DERIVED. THE GIVEN ROWS OF THIS SEAT. 7 by the template 'for every input the law returns true; each argument reads behind the call as it read before'; 0 by the template 'total and deterministic' (their statements: YtchaojdjgbeepaaDoorTotals.lean).
  GIVEN WITH THE SEED: the statements are not yours to turn. If you find one false, say at which input.
  Laid BY PROGRAM, IN A SANDBOX (cutbox-rows.mjs): the forced cells as the released guide's own fill.sh prints them over the translation 06cc8b82155062e0… (all of the seat's roots in one cut). By AI agents, Wed Nov 11 2026. No macro, syntax, notation, axiom, sorry.
-/
import Derived.Test.YtchaojdjgbeepaaDoorChecked
import GoSem.Claim
import GoSem.ClaimJoined
import GoSem.ClaimMapViews
import Derived.JoinedTies
import Derived.KernelRfl
namespace Go.Proofs.YtchaojdjgbeepaaDoor
/- THE CELL 'sum', in the pinned program and in every row, IS THE sha256 OF THE DUMP (.gsa) THAT YtchaojdjgbeepaaDoorProg.lean LOADS. Nothing in Lean hashes anything: it is a label: what it is worth is what the hold of that sum in a sandbox is worth. -/
noncomputable def Tryd.pinned : Pinned := { name := "ytchaojdjgbeepaadoor", sum := "06cc8b82155062e005e6fb36f1dbe2a8b28ebaf2121ae97a8c73eb58fcfabf0d", checked := Tryd.checked }
namespace Rows
def none {H : Type} : Left H := { results := [], args := [] }

/- WHAT THE LISTED PACKAGE-LEVEL VARIABLES READ AS WHEN THE CALL BEGINS. Each datum BY PROGRAM (the guide's laid-datum.mjs) off the statement by which the dump's own 'gosem.cut.vars' lays the variable. In a bare row this is a premise. The card (YtchaojdjgbeepaaDoorCards.lean) ties it to the program's text. -/
def laid_selion_addr_errAddr {H : Type} : DataW H := .iface "*errors.errorString" (.ptr (.agg [.lit (.string [97, 100, 100, 114, 58, 32, 110, 111, 32, 97, 100, 100, 114, 101, 115, 115])]))
def laid_selion_addr_errSize {H : Type} : DataW H := .iface "*errors.errorString" (.ptr (.agg [.lit (.string [97, 100, 100, 114, 58, 32, 110, 111, 32, 115, 105, 122, 101])]))
def laid_selion_addr_errRef {H : Type} : DataW H := .iface "*errors.errorString" (.ptr (.agg [.lit (.string [97, 100, 100, 114, 58, 32, 110, 111, 32, 114, 101, 102, 101, 114, 101, 110, 99, 101])]))
def laid_selion_addr_worth {H : Type} : DataW H := .agg [.lit (.int .i64 4096), .lit (.int .i64 128), .lit (.int .i64 1)]
def laid_selion_arena_errNil {H : Type} : DataW H := .iface "*errors.errorString" (.ptr (.agg [.lit (.string [97, 114, 101, 110, 97, 58, 32, 110, 111, 32, 97, 114, 101, 110, 97])]))
def laid_selion_arena_errArg {H : Type} : DataW H := .iface "*errors.errorString" (.ptr (.agg [.lit (.string [97, 114, 101, 110, 97, 58, 32, 110, 111, 32, 115, 117, 99, 104, 32, 110, 117, 109, 98, 101, 114])]))
def laid_selion_arena_errAddr {H : Type} : DataW H := .iface "*errors.errorString" (.ptr (.agg [.lit (.string [97, 114, 101, 110, 97, 58, 32, 110, 111, 32, 115, 117, 99, 104, 32, 98, 121, 116, 101, 115])]))

/-- 'selionlaw03.ArenaNew': WHATEVER THE INPUT: true; the input reads as it did. -/
def arenaNewSpec : ChangeSpec := { name := "arenaNew", fn := fun _ => fun
  | [d1, d2] => { results := [.lit (.bool true)], args := [d1, d2] }
  | _ => none }
def arenaNewRow : OpenClaim := { program := "ytchaojdjgbeepaadoor", sum := "06cc8b82155062e005e6fb36f1dbe2a8b28ebaf2121ae97a8c73eb58fcfabf0d", func := "selion/selionlaw03.ArenaNew", spec := "arenaNew", inPlace := ["internal/reflectlite.TypeOf"], unfollowed := true, recurses := true, named := ["selion/arena.errArg", "selion/addr.worth", "selion/addr.errAddr", "selion/addr.errSize", "selion/addr.errRef", "selion/arena.errNil", "selion/arena.errAddr"], apart := false, laid := [("selion/addr.errAddr", laid_selion_addr_errAddr), ("selion/addr.errSize", laid_selion_addr_errSize), ("selion/addr.errRef", laid_selion_addr_errRef), ("selion/addr.worth", laid_selion_addr_worth), ("selion/arena.errNil", laid_selion_arena_errNil), ("selion/arena.errArg", laid_selion_arena_errArg), ("selion/arena.errAddr", laid_selion_arena_errAddr)] }
def ArenaNewSaid : Prop := arenaNewRow.holds Tryd.pinned (OpenSpec.ofChange arenaNewSpec)

/-- ITS FALSE NEIGHBOUR: 'it returns false'. Refute it at one input. -/
def arenaNewWrong : ChangeSpec := { name := "arenaNew", fn := fun _ => fun
  | [d1, d2] => { results := [.lit (.bool false)], args := [d1, d2] }
  | _ => none }
def ArenaNewWrongFalsely : Prop := arenaNewRow.holds Tryd.pinned (OpenSpec.ofChange arenaNewWrong)

/-- 'selionlaw03.ArenaPlays': WHATEVER THE INPUT: true; the input reads as it did. -/
def arenaPlaysSpec : ChangeSpec := { name := "arenaPlays", fn := fun _ => fun
  | [d1, d2] => { results := [.lit (.bool true)], args := [d1, d2] }
  | _ => none }
def arenaPlaysRow : OpenClaim := { program := "ytchaojdjgbeepaadoor", sum := "06cc8b82155062e005e6fb36f1dbe2a8b28ebaf2121ae97a8c73eb58fcfabf0d", func := "selion/selionlaw03.ArenaPlays", spec := "arenaPlays", inPlace := ["internal/reflectlite.TypeOf"], unfollowed := true, recurses := true, named := ["selion/arena.errArg", "selion/addr.worth", "selion/addr.errAddr", "selion/addr.errSize", "selion/addr.errRef", "selion/arena.errNil", "selion/arena.errAddr"], apart := false, laid := [("selion/addr.errAddr", laid_selion_addr_errAddr), ("selion/addr.errSize", laid_selion_addr_errSize), ("selion/addr.errRef", laid_selion_addr_errRef), ("selion/addr.worth", laid_selion_addr_worth), ("selion/arena.errNil", laid_selion_arena_errNil), ("selion/arena.errArg", laid_selion_arena_errArg), ("selion/arena.errAddr", laid_selion_arena_errAddr)] }
def ArenaPlaysSaid : Prop := arenaPlaysRow.holds Tryd.pinned (OpenSpec.ofChange arenaPlaysSpec)

/-- ITS FALSE NEIGHBOUR: 'it returns false'. Refute it at one input. -/
def arenaPlaysWrong : ChangeSpec := { name := "arenaPlays", fn := fun _ => fun
  | [d1, d2] => { results := [.lit (.bool false)], args := [d1, d2] }
  | _ => none }
def ArenaPlaysWrongFalsely : Prop := arenaPlaysRow.holds Tryd.pinned (OpenSpec.ofChange arenaPlaysWrong)

/-- 'selionlaw03.ArenaBack': WHATEVER THE INPUT: true; the input reads as it did. -/
def arenaBackSpec : ChangeSpec := { name := "arenaBack", fn := fun _ => fun
  | [d1, d2, d3, d4] => { results := [.lit (.bool true)], args := [d1, d2, d3, d4] }
  | _ => none }
def arenaBackRow : OpenClaim := { program := "ytchaojdjgbeepaadoor", sum := "06cc8b82155062e005e6fb36f1dbe2a8b28ebaf2121ae97a8c73eb58fcfabf0d", func := "selion/selionlaw03.ArenaBack", spec := "arenaBack", inPlace := ["internal/reflectlite.TypeOf"], unfollowed := true, recurses := true, named := ["selion/arena.errArg", "selion/addr.worth", "selion/addr.errAddr", "selion/addr.errSize", "selion/addr.errRef", "selion/arena.errNil", "selion/arena.errAddr"], apart := false, laid := [("selion/addr.errAddr", laid_selion_addr_errAddr), ("selion/addr.errSize", laid_selion_addr_errSize), ("selion/addr.errRef", laid_selion_addr_errRef), ("selion/addr.worth", laid_selion_addr_worth), ("selion/arena.errNil", laid_selion_arena_errNil), ("selion/arena.errArg", laid_selion_arena_errArg), ("selion/arena.errAddr", laid_selion_arena_errAddr)] }
def ArenaBackSaid : Prop := arenaBackRow.holds Tryd.pinned (OpenSpec.ofChange arenaBackSpec)

/-- ITS FALSE NEIGHBOUR: 'it returns false'. Refute it at one input. -/
def arenaBackWrong : ChangeSpec := { name := "arenaBack", fn := fun _ => fun
  | [d1, d2, d3, d4] => { results := [.lit (.bool false)], args := [d1, d2, d3, d4] }
  | _ => none }
def ArenaBackWrongFalsely : Prop := arenaBackRow.holds Tryd.pinned (OpenSpec.ofChange arenaBackWrong)

/-- 'selionlaw03.ArenaWords': WHATEVER THE INPUT: true; the input reads as it did. -/
def arenaWordsSpec : ChangeSpec := { name := "arenaWords", fn := fun _ => fun
  | [d1, d2, d3, d4] => { results := [.lit (.bool true)], args := [d1, d2, d3, d4] }
  | _ => none }
def arenaWordsRow : OpenClaim := { program := "ytchaojdjgbeepaadoor", sum := "06cc8b82155062e005e6fb36f1dbe2a8b28ebaf2121ae97a8c73eb58fcfabf0d", func := "selion/selionlaw03.ArenaWords", spec := "arenaWords", inPlace := ["internal/reflectlite.TypeOf"], unfollowed := true, recurses := true, named := ["selion/arena.errArg", "selion/addr.worth", "selion/addr.errAddr", "selion/addr.errSize", "selion/addr.errRef", "selion/arena.errNil", "selion/arena.errAddr"], apart := false, laid := [("selion/addr.errAddr", laid_selion_addr_errAddr), ("selion/addr.errSize", laid_selion_addr_errSize), ("selion/addr.errRef", laid_selion_addr_errRef), ("selion/addr.worth", laid_selion_addr_worth), ("selion/arena.errNil", laid_selion_arena_errNil), ("selion/arena.errArg", laid_selion_arena_errArg), ("selion/arena.errAddr", laid_selion_arena_errAddr)] }
def ArenaWordsSaid : Prop := arenaWordsRow.holds Tryd.pinned (OpenSpec.ofChange arenaWordsSpec)

/-- ITS FALSE NEIGHBOUR: 'it returns false'. Refute it at one input. -/
def arenaWordsWrong : ChangeSpec := { name := "arenaWords", fn := fun _ => fun
  | [d1, d2, d3, d4] => { results := [.lit (.bool false)], args := [d1, d2, d3, d4] }
  | _ => none }
def ArenaWordsWrongFalsely : Prop := arenaWordsRow.holds Tryd.pinned (OpenSpec.ofChange arenaWordsWrong)

/-- 'selionlaw03.ArenaZeroes': WHATEVER THE INPUT: true; the input reads as it did. -/
def arenaZeroesSpec : ChangeSpec := { name := "arenaZeroes", fn := fun _ => fun
  | [d1, d2, d3, d4] => { results := [.lit (.bool true)], args := [d1, d2, d3, d4] }
  | _ => none }
def arenaZeroesRow : OpenClaim := { program := "ytchaojdjgbeepaadoor", sum := "06cc8b82155062e005e6fb36f1dbe2a8b28ebaf2121ae97a8c73eb58fcfabf0d", func := "selion/selionlaw03.ArenaZeroes", spec := "arenaZeroes", inPlace := ["internal/reflectlite.TypeOf"], unfollowed := true, recurses := true, named := ["selion/arena.errArg", "selion/addr.worth", "selion/addr.errAddr", "selion/addr.errSize", "selion/addr.errRef", "selion/arena.errNil", "selion/arena.errAddr"], apart := false, laid := [("selion/addr.errAddr", laid_selion_addr_errAddr), ("selion/addr.errSize", laid_selion_addr_errSize), ("selion/addr.errRef", laid_selion_addr_errRef), ("selion/addr.worth", laid_selion_addr_worth), ("selion/arena.errNil", laid_selion_arena_errNil), ("selion/arena.errArg", laid_selion_arena_errArg), ("selion/arena.errAddr", laid_selion_arena_errAddr)] }
def ArenaZeroesSaid : Prop := arenaZeroesRow.holds Tryd.pinned (OpenSpec.ofChange arenaZeroesSpec)

/-- ITS FALSE NEIGHBOUR: 'it returns false'. Refute it at one input. -/
def arenaZeroesWrong : ChangeSpec := { name := "arenaZeroes", fn := fun _ => fun
  | [d1, d2, d3, d4] => { results := [.lit (.bool false)], args := [d1, d2, d3, d4] }
  | _ => none }
def ArenaZeroesWrongFalsely : Prop := arenaZeroesRow.holds Tryd.pinned (OpenSpec.ofChange arenaZeroesWrong)

/-- 'selionlaw03.ArenaApart': WHATEVER THE INPUT: true; the input reads as it did. -/
def arenaApartSpec : ChangeSpec := { name := "arenaApart", fn := fun _ => fun
  | [d1, d2, d3, d4, d5, d6] => { results := [.lit (.bool true)], args := [d1, d2, d3, d4, d5, d6] }
  | _ => none }
def arenaApartRow : OpenClaim := { program := "ytchaojdjgbeepaadoor", sum := "06cc8b82155062e005e6fb36f1dbe2a8b28ebaf2121ae97a8c73eb58fcfabf0d", func := "selion/selionlaw03.ArenaApart", spec := "arenaApart", inPlace := ["internal/reflectlite.TypeOf"], unfollowed := true, recurses := true, named := ["selion/arena.errArg", "selion/addr.worth", "selion/addr.errAddr", "selion/addr.errSize", "selion/addr.errRef", "selion/arena.errNil", "selion/arena.errAddr"], apart := false, laid := [("selion/addr.errAddr", laid_selion_addr_errAddr), ("selion/addr.errSize", laid_selion_addr_errSize), ("selion/addr.errRef", laid_selion_addr_errRef), ("selion/addr.worth", laid_selion_addr_worth), ("selion/arena.errNil", laid_selion_arena_errNil), ("selion/arena.errArg", laid_selion_arena_errArg), ("selion/arena.errAddr", laid_selion_arena_errAddr)] }
def ArenaApartSaid : Prop := arenaApartRow.holds Tryd.pinned (OpenSpec.ofChange arenaApartSpec)

/-- ITS FALSE NEIGHBOUR: 'it returns false'. Refute it at one input. -/
def arenaApartWrong : ChangeSpec := { name := "arenaApart", fn := fun _ => fun
  | [d1, d2, d3, d4, d5, d6] => { results := [.lit (.bool false)], args := [d1, d2, d3, d4, d5, d6] }
  | _ => none }
def ArenaApartWrongFalsely : Prop := arenaApartRow.holds Tryd.pinned (OpenSpec.ofChange arenaApartWrong)

/-- 'selionlaw03.ArenaParts': WHATEVER THE INPUT: true; the input reads as it did. -/
def arenaPartsSpec : ChangeSpec := { name := "arenaParts", fn := fun _ => fun
  | [d1, d2, d3, d4, d5] => { results := [.lit (.bool true)], args := [d1, d2, d3, d4, d5] }
  | _ => none }
def arenaPartsRow : OpenClaim := { program := "ytchaojdjgbeepaadoor", sum := "06cc8b82155062e005e6fb36f1dbe2a8b28ebaf2121ae97a8c73eb58fcfabf0d", func := "selion/selionlaw03.ArenaParts", spec := "arenaParts", inPlace := ["internal/reflectlite.TypeOf"], unfollowed := true, recurses := true, named := ["selion/arena.errArg", "selion/addr.worth", "selion/addr.errAddr", "selion/addr.errSize", "selion/addr.errRef", "selion/arena.errNil", "selion/arena.errAddr"], apart := false, laid := [("selion/addr.errAddr", laid_selion_addr_errAddr), ("selion/addr.errSize", laid_selion_addr_errSize), ("selion/addr.errRef", laid_selion_addr_errRef), ("selion/addr.worth", laid_selion_addr_worth), ("selion/arena.errNil", laid_selion_arena_errNil), ("selion/arena.errArg", laid_selion_arena_errArg), ("selion/arena.errAddr", laid_selion_arena_errAddr)] }
def ArenaPartsSaid : Prop := arenaPartsRow.holds Tryd.pinned (OpenSpec.ofChange arenaPartsSpec)

/-- ITS FALSE NEIGHBOUR: 'it returns false'. Refute it at one input. -/
def arenaPartsWrong : ChangeSpec := { name := "arenaParts", fn := fun _ => fun
  | [d1, d2, d3, d4, d5] => { results := [.lit (.bool false)], args := [d1, d2, d3, d4, d5] }
  | _ => none }
def ArenaPartsWrongFalsely : Prop := arenaPartsRow.holds Tryd.pinned (OpenSpec.ofChange arenaPartsWrong)

/- THE SECOND FORM. 'bulk': how many values and letters a reading holds, each counted each time it is reached (what is shared counts as often as it is met; a slice's spare places count too). A statement '..UptoSaid' is the law's where the arguments, and the package variables that the reading takes, are together of bulk at most 1048576: NARROWER than '..Said'. Prove '..Said' where nothing that the law and all that it calls make is longer than what came in: it says more and counts as full. Else prove '..UptoSaid'. A law counts once. -/
mutual
def uptoBulk {H : Type} : DataW H → Nat
  | .lit (.string bytes) => bytes.length + 1
  | .lit _ => 1
  | .nil => 1
  | .ptr d => uptoBulk d + 1
  | .slice elems spare => uptoBulkAll elems + uptoBulkAll spare + 1
  | .agg parts => uptoBulkAll parts + 1
  | .iface _ d => uptoBulk d + 1
  | .map entries => uptoBulkEntries entries + 1
  | .held _ => 1
def uptoBulkAll {H : Type} : List (DataW H) → Nat
  | [] => 0
  | d :: r => uptoBulk d + uptoBulkAll r
def uptoBulkEntries {H : Type} : List (Lit × DataW H) → Nat
  | [] => 0
  | x :: r => uptoBulkEntry x + uptoBulkEntries r
def uptoBulkEntry {H : Type} : Lit × DataW H → Nat
  | (.string bytes, d) => bytes.length + uptoBulk d + 1
  | (_, d) => uptoBulk d + 1
 end
def uptoSmall : (H : Type) → List (DataW H) → Bool := fun _ ds => decide (uptoBulkAll ds ≤ 1048576)
def OpenSpec.upto (s : _root_.Go.ChangeSpec) : _root_.Go.OpenSpec := { _root_.Go.OpenSpec.ofChange s with cond := some uptoSmall }

/-- 'selionlaw03.ArenaNew', WHERE WHAT IT READS IS OF BULK AT MOST 1048576: true; the input reads as it did. -/
def arenaNewUptoRow : OpenClaim := { program := "ytchaojdjgbeepaadoor", sum := "06cc8b82155062e005e6fb36f1dbe2a8b28ebaf2121ae97a8c73eb58fcfabf0d", func := "selion/selionlaw03.ArenaNew", spec := "arenaNew", inPlace := ["internal/reflectlite.TypeOf"], unfollowed := true, recurses := true, named := ["selion/arena.errArg", "selion/addr.worth", "selion/addr.errAddr", "selion/addr.errSize", "selion/addr.errRef", "selion/arena.errNil", "selion/arena.errAddr"], apart := false, laid := [("selion/addr.errAddr", laid_selion_addr_errAddr), ("selion/addr.errSize", laid_selion_addr_errSize), ("selion/addr.errRef", laid_selion_addr_errRef), ("selion/addr.worth", laid_selion_addr_worth), ("selion/arena.errNil", laid_selion_arena_errNil), ("selion/arena.errArg", laid_selion_arena_errArg), ("selion/arena.errAddr", laid_selion_arena_errAddr)], narrowed := true }
def ArenaNewUptoSaid : Prop := arenaNewUptoRow.holds Tryd.pinned (OpenSpec.upto arenaNewSpec)

/-- 'selionlaw03.ArenaPlays', WHERE WHAT IT READS IS OF BULK AT MOST 1048576: true; the input reads as it did. -/
def arenaPlaysUptoRow : OpenClaim := { program := "ytchaojdjgbeepaadoor", sum := "06cc8b82155062e005e6fb36f1dbe2a8b28ebaf2121ae97a8c73eb58fcfabf0d", func := "selion/selionlaw03.ArenaPlays", spec := "arenaPlays", inPlace := ["internal/reflectlite.TypeOf"], unfollowed := true, recurses := true, named := ["selion/arena.errArg", "selion/addr.worth", "selion/addr.errAddr", "selion/addr.errSize", "selion/addr.errRef", "selion/arena.errNil", "selion/arena.errAddr"], apart := false, laid := [("selion/addr.errAddr", laid_selion_addr_errAddr), ("selion/addr.errSize", laid_selion_addr_errSize), ("selion/addr.errRef", laid_selion_addr_errRef), ("selion/addr.worth", laid_selion_addr_worth), ("selion/arena.errNil", laid_selion_arena_errNil), ("selion/arena.errArg", laid_selion_arena_errArg), ("selion/arena.errAddr", laid_selion_arena_errAddr)], narrowed := true }
def ArenaPlaysUptoSaid : Prop := arenaPlaysUptoRow.holds Tryd.pinned (OpenSpec.upto arenaPlaysSpec)

/-- 'selionlaw03.ArenaBack', WHERE WHAT IT READS IS OF BULK AT MOST 1048576: true; the input reads as it did. -/
def arenaBackUptoRow : OpenClaim := { program := "ytchaojdjgbeepaadoor", sum := "06cc8b82155062e005e6fb36f1dbe2a8b28ebaf2121ae97a8c73eb58fcfabf0d", func := "selion/selionlaw03.ArenaBack", spec := "arenaBack", inPlace := ["internal/reflectlite.TypeOf"], unfollowed := true, recurses := true, named := ["selion/arena.errArg", "selion/addr.worth", "selion/addr.errAddr", "selion/addr.errSize", "selion/addr.errRef", "selion/arena.errNil", "selion/arena.errAddr"], apart := false, laid := [("selion/addr.errAddr", laid_selion_addr_errAddr), ("selion/addr.errSize", laid_selion_addr_errSize), ("selion/addr.errRef", laid_selion_addr_errRef), ("selion/addr.worth", laid_selion_addr_worth), ("selion/arena.errNil", laid_selion_arena_errNil), ("selion/arena.errArg", laid_selion_arena_errArg), ("selion/arena.errAddr", laid_selion_arena_errAddr)], narrowed := true }
def ArenaBackUptoSaid : Prop := arenaBackUptoRow.holds Tryd.pinned (OpenSpec.upto arenaBackSpec)

/-- 'selionlaw03.ArenaWords', WHERE WHAT IT READS IS OF BULK AT MOST 1048576: true; the input reads as it did. -/
def arenaWordsUptoRow : OpenClaim := { program := "ytchaojdjgbeepaadoor", sum := "06cc8b82155062e005e6fb36f1dbe2a8b28ebaf2121ae97a8c73eb58fcfabf0d", func := "selion/selionlaw03.ArenaWords", spec := "arenaWords", inPlace := ["internal/reflectlite.TypeOf"], unfollowed := true, recurses := true, named := ["selion/arena.errArg", "selion/addr.worth", "selion/addr.errAddr", "selion/addr.errSize", "selion/addr.errRef", "selion/arena.errNil", "selion/arena.errAddr"], apart := false, laid := [("selion/addr.errAddr", laid_selion_addr_errAddr), ("selion/addr.errSize", laid_selion_addr_errSize), ("selion/addr.errRef", laid_selion_addr_errRef), ("selion/addr.worth", laid_selion_addr_worth), ("selion/arena.errNil", laid_selion_arena_errNil), ("selion/arena.errArg", laid_selion_arena_errArg), ("selion/arena.errAddr", laid_selion_arena_errAddr)], narrowed := true }
def ArenaWordsUptoSaid : Prop := arenaWordsUptoRow.holds Tryd.pinned (OpenSpec.upto arenaWordsSpec)

/-- 'selionlaw03.ArenaZeroes', WHERE WHAT IT READS IS OF BULK AT MOST 1048576: true; the input reads as it did. -/
def arenaZeroesUptoRow : OpenClaim := { program := "ytchaojdjgbeepaadoor", sum := "06cc8b82155062e005e6fb36f1dbe2a8b28ebaf2121ae97a8c73eb58fcfabf0d", func := "selion/selionlaw03.ArenaZeroes", spec := "arenaZeroes", inPlace := ["internal/reflectlite.TypeOf"], unfollowed := true, recurses := true, named := ["selion/arena.errArg", "selion/addr.worth", "selion/addr.errAddr", "selion/addr.errSize", "selion/addr.errRef", "selion/arena.errNil", "selion/arena.errAddr"], apart := false, laid := [("selion/addr.errAddr", laid_selion_addr_errAddr), ("selion/addr.errSize", laid_selion_addr_errSize), ("selion/addr.errRef", laid_selion_addr_errRef), ("selion/addr.worth", laid_selion_addr_worth), ("selion/arena.errNil", laid_selion_arena_errNil), ("selion/arena.errArg", laid_selion_arena_errArg), ("selion/arena.errAddr", laid_selion_arena_errAddr)], narrowed := true }
def ArenaZeroesUptoSaid : Prop := arenaZeroesUptoRow.holds Tryd.pinned (OpenSpec.upto arenaZeroesSpec)

/-- 'selionlaw03.ArenaApart', WHERE WHAT IT READS IS OF BULK AT MOST 1048576: true; the input reads as it did. -/
def arenaApartUptoRow : OpenClaim := { program := "ytchaojdjgbeepaadoor", sum := "06cc8b82155062e005e6fb36f1dbe2a8b28ebaf2121ae97a8c73eb58fcfabf0d", func := "selion/selionlaw03.ArenaApart", spec := "arenaApart", inPlace := ["internal/reflectlite.TypeOf"], unfollowed := true, recurses := true, named := ["selion/arena.errArg", "selion/addr.worth", "selion/addr.errAddr", "selion/addr.errSize", "selion/addr.errRef", "selion/arena.errNil", "selion/arena.errAddr"], apart := false, laid := [("selion/addr.errAddr", laid_selion_addr_errAddr), ("selion/addr.errSize", laid_selion_addr_errSize), ("selion/addr.errRef", laid_selion_addr_errRef), ("selion/addr.worth", laid_selion_addr_worth), ("selion/arena.errNil", laid_selion_arena_errNil), ("selion/arena.errArg", laid_selion_arena_errArg), ("selion/arena.errAddr", laid_selion_arena_errAddr)], narrowed := true }
def ArenaApartUptoSaid : Prop := arenaApartUptoRow.holds Tryd.pinned (OpenSpec.upto arenaApartSpec)

/-- 'selionlaw03.ArenaParts', WHERE WHAT IT READS IS OF BULK AT MOST 1048576: true; the input reads as it did. -/
def arenaPartsUptoRow : OpenClaim := { program := "ytchaojdjgbeepaadoor", sum := "06cc8b82155062e005e6fb36f1dbe2a8b28ebaf2121ae97a8c73eb58fcfabf0d", func := "selion/selionlaw03.ArenaParts", spec := "arenaParts", inPlace := ["internal/reflectlite.TypeOf"], unfollowed := true, recurses := true, named := ["selion/arena.errArg", "selion/addr.worth", "selion/addr.errAddr", "selion/addr.errSize", "selion/addr.errRef", "selion/arena.errNil", "selion/arena.errAddr"], apart := false, laid := [("selion/addr.errAddr", laid_selion_addr_errAddr), ("selion/addr.errSize", laid_selion_addr_errSize), ("selion/addr.errRef", laid_selion_addr_errRef), ("selion/addr.worth", laid_selion_addr_worth), ("selion/arena.errNil", laid_selion_arena_errNil), ("selion/arena.errArg", laid_selion_arena_errArg), ("selion/arena.errAddr", laid_selion_arena_errAddr)], narrowed := true }
def ArenaPartsUptoSaid : Prop := arenaPartsUptoRow.holds Tryd.pinned (OpenSpec.upto arenaPartsSpec)

end Rows
end Go.Proofs.YtchaojdjgbeepaaDoor
