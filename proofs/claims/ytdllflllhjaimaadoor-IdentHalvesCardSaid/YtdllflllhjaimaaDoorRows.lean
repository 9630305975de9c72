/-
  NARROWER THAN 'FOR EVERY INPUT', by the rows' own cells (each row's printed sentence says how): IdentMeet: laid · IdentHalves: laid · IdentBuilt: laid · IdentSets: laid · IdentOrder: laid.
  DERIVED. THE GIVEN ROWS OF THIS SEAT. 5 by the template 'for every input the law returns true; each argument reads behind the call as it read before'; 0 by the template 'total and deterministic' (their statements: YtdllflllhjaimaaDoorTotals.lean).
  GIVEN WITH THE SEED: the statements are not yours to turn. If you find one false, say at which input.
  Laid BY PROGRAM, IN A SANDBOX (cutbox-rows.mjs): the forced cells as the released guide's own fill.sh prints them over the translation 048066f05da7334b… (all of the seat's roots in one cut). By AI agents, Wed Nov 11 2026. No macro, syntax, notation, axiom, sorry.
-/
import Derived.Test.YtdllflllhjaimaaDoorChecked
import GoSem.Claim
import GoSem.ClaimJoined
import GoSem.ClaimMapViews
import Derived.JoinedTies
import Derived.KernelRfl
namespace Go.Proofs.YtdllflllhjaimaaDoor
/- THE CELL 'sum', in the pinned program and in every row, IS THE sha256 OF THE DUMP (.gsa) THAT YtdllflllhjaimaaDoorProg.lean LOADS. Nothing in Lean hashes anything: it is a label: what it is worth is what the hold of that sum in a sandbox is worth. -/
noncomputable def Tryd.pinned : Pinned := { name := "ytdllflllhjaimaadoor", sum := "048066f05da7334b13c8c054e780166b2418ef658bb43ae21d511c5fa6f546be", checked := Tryd.checked }
namespace Rows
def none {H : Type} : Left H := { results := [], args := [] }

/- WHAT THE LISTED PACKAGE-LEVEL VARIABLES READ AS WHEN THE CALL BEGINS. Each datum BY PROGRAM (the guide's laid-datum.mjs) off the statement by which the dump's own 'gosem.cut.vars' lays the variable. In a bare row this is a premise. The card (YtdllflllhjaimaaDoorCards.lean) ties it to the program's text. -/
def laid_math_bits_deBruijn32tab {H : Type} : DataW H := .agg [.lit (.int .u8 0), .lit (.int .u8 1), .lit (.int .u8 28), .lit (.int .u8 2), .lit (.int .u8 29), .lit (.int .u8 14), .lit (.int .u8 24), .lit (.int .u8 3), .lit (.int .u8 30), .lit (.int .u8 22), .lit (.int .u8 20), .lit (.int .u8 15), .lit (.int .u8 25), .lit (.int .u8 17), .lit (.int .u8 4), .lit (.int .u8 8), .lit (.int .u8 31), .lit (.int .u8 27), .lit (.int .u8 13), .lit (.int .u8 23), .lit (.int .u8 21), .lit (.int .u8 19), .lit (.int .u8 16), .lit (.int .u8 7), .lit (.int .u8 26), .lit (.int .u8 12), .lit (.int .u8 18), .lit (.int .u8 6), .lit (.int .u8 11), .lit (.int .u8 5), .lit (.int .u8 10), .lit (.int .u8 9)]

/-- 'folkmootlaw04.IdentMeet': WHATEVER THE INPUT: true; the input reads as it did. -/
def identMeetSpec : ChangeSpec := { name := "identMeet", fn := fun _ => fun
  | [d1, d2, d3] => { results := [.lit (.bool true)], args := [d1, d2, d3] }
  | _ => none }
def identMeetRow : OpenClaim := { program := "ytdllflllhjaimaadoor", sum := "048066f05da7334b13c8c054e780166b2418ef658bb43ae21d511c5fa6f546be", func := "folkmoot/folkmootlaw04.IdentMeet", spec := "identMeet", named := ["math/bits.deBruijn32tab"], apart := false, laid := [("math/bits.deBruijn32tab", laid_math_bits_deBruijn32tab)] }
def IdentMeetSaid : Prop := identMeetRow.holds Tryd.pinned (OpenSpec.ofChange identMeetSpec)

/-- ITS FALSE NEIGHBOUR: 'it returns false'. Refute it at one input. -/
def identMeetWrong : ChangeSpec := { name := "identMeet", fn := fun _ => fun
  | [d1, d2, d3] => { results := [.lit (.bool false)], args := [d1, d2, d3] }
  | _ => none }
def IdentMeetWrongFalsely : Prop := identMeetRow.holds Tryd.pinned (OpenSpec.ofChange identMeetWrong)

/-- 'folkmootlaw04.IdentHalves': WHATEVER THE INPUT: true; the input reads as it did. -/
def identHalvesSpec : ChangeSpec := { name := "identHalves", fn := fun _ => fun
  | [d1, d2] => { results := [.lit (.bool true)], args := [d1, d2] }
  | _ => none }
def identHalvesRow : OpenClaim := { program := "ytdllflllhjaimaadoor", sum := "048066f05da7334b13c8c054e780166b2418ef658bb43ae21d511c5fa6f546be", func := "folkmoot/folkmootlaw04.IdentHalves", spec := "identHalves", named := ["math/bits.deBruijn32tab"], apart := false, laid := [("math/bits.deBruijn32tab", laid_math_bits_deBruijn32tab)] }
def IdentHalvesSaid : Prop := identHalvesRow.holds Tryd.pinned (OpenSpec.ofChange identHalvesSpec)

/-- ITS FALSE NEIGHBOUR: 'it returns false'. Refute it at one input. -/
def identHalvesWrong : ChangeSpec := { name := "identHalves", fn := fun _ => fun
  | [d1, d2] => { results := [.lit (.bool false)], args := [d1, d2] }
  | _ => none }
def IdentHalvesWrongFalsely : Prop := identHalvesRow.holds Tryd.pinned (OpenSpec.ofChange identHalvesWrong)

/-- 'folkmootlaw04.IdentBuilt': WHATEVER THE INPUT: true; the input reads as it did. -/
def identBuiltSpec : ChangeSpec := { name := "identBuilt", fn := fun _ => fun
  | [d1, d2] => { results := [.lit (.bool true)], args := [d1, d2] }
  | _ => none }
def identBuiltRow : OpenClaim := { program := "ytdllflllhjaimaadoor", sum := "048066f05da7334b13c8c054e780166b2418ef658bb43ae21d511c5fa6f546be", func := "folkmoot/folkmootlaw04.IdentBuilt", spec := "identBuilt", named := ["math/bits.deBruijn32tab"], apart := false, laid := [("math/bits.deBruijn32tab", laid_math_bits_deBruijn32tab)] }
def IdentBuiltSaid : Prop := identBuiltRow.holds Tryd.pinned (OpenSpec.ofChange identBuiltSpec)

/-- ITS FALSE NEIGHBOUR: 'it returns false'. Refute it at one input. -/
def identBuiltWrong : ChangeSpec := { name := "identBuilt", fn := fun _ => fun
  | [d1, d2] => { results := [.lit (.bool false)], args := [d1, d2] }
  | _ => none }
def IdentBuiltWrongFalsely : Prop := identBuiltRow.holds Tryd.pinned (OpenSpec.ofChange identBuiltWrong)

/-- 'folkmootlaw04.IdentSets': WHATEVER THE INPUT: true; the input reads as it did. -/
def identSetsSpec : ChangeSpec := { name := "identSets", fn := fun _ => fun
  | [d1, d2, d3] => { results := [.lit (.bool true)], args := [d1, d2, d3] }
  | _ => none }
def identSetsRow : OpenClaim := { program := "ytdllflllhjaimaadoor", sum := "048066f05da7334b13c8c054e780166b2418ef658bb43ae21d511c5fa6f546be", func := "folkmoot/folkmootlaw04.IdentSets", spec := "identSets", named := ["math/bits.deBruijn32tab"], apart := false, laid := [("math/bits.deBruijn32tab", laid_math_bits_deBruijn32tab)] }
def IdentSetsSaid : Prop := identSetsRow.holds Tryd.pinned (OpenSpec.ofChange identSetsSpec)

/-- ITS FALSE NEIGHBOUR: 'it returns false'. Refute it at one input. -/
def identSetsWrong : ChangeSpec := { name := "identSets", fn := fun _ => fun
  | [d1, d2, d3] => { results := [.lit (.bool false)], args := [d1, d2, d3] }
  | _ => none }
def IdentSetsWrongFalsely : Prop := identSetsRow.holds Tryd.pinned (OpenSpec.ofChange identSetsWrong)

/-- 'folkmootlaw04.IdentOrder': WHATEVER THE INPUT: true; the input reads as it did. -/
def identOrderSpec : ChangeSpec := { name := "identOrder", fn := fun _ => fun
  | [d1, d2, d3] => { results := [.lit (.bool true)], args := [d1, d2, d3] }
  | _ => none }
def identOrderRow : OpenClaim := { program := "ytdllflllhjaimaadoor", sum := "048066f05da7334b13c8c054e780166b2418ef658bb43ae21d511c5fa6f546be", func := "folkmoot/folkmootlaw04.IdentOrder", spec := "identOrder", named := ["math/bits.deBruijn32tab"], apart := false, laid := [("math/bits.deBruijn32tab", laid_math_bits_deBruijn32tab)] }
def IdentOrderSaid : Prop := identOrderRow.holds Tryd.pinned (OpenSpec.ofChange identOrderSpec)

/-- ITS FALSE NEIGHBOUR: 'it returns false'. Refute it at one input. -/
def identOrderWrong : ChangeSpec := { name := "identOrder", fn := fun _ => fun
  | [d1, d2, d3] => { results := [.lit (.bool false)], args := [d1, d2, d3] }
  | _ => none }
def IdentOrderWrongFalsely : Prop := identOrderRow.holds Tryd.pinned (OpenSpec.ofChange identOrderWrong)

/- THE SECOND FORM. 'bulk': how many values and letters a reading holds, each counted each time it is reached (what is shared counts as often as it is met; a slice's spare places count too). A statement '..UptoSaid' is the law's where the arguments, and the package variables that the reading takes, are together of bulk at most 1048576: NARROWER than '..Said'. Prove '..Said' where nothing that the law and all that it calls make is longer than what came in: it says more and counts as full. Else prove '..UptoSaid'. A law counts once. -/
mutual
def uptoBulk {H : Type} : DataW H → Nat
  | .lit (.string bytes) => bytes.length + 1
  | .lit _ => 1
  | .nil => 1
  | .ptr d => uptoBulk d + 1
  | .slice elems spare => uptoBulkAll elems + uptoBulkAll spare + 1
  | .agg parts => uptoBulkAll parts + 1
  | .iface _ d => uptoBulk d + 1
  | .map entries => uptoBulkEntries entries + 1
  | .held _ => 1
def uptoBulkAll {H : Type} : List (DataW H) → Nat
  | [] => 0
  | d :: r => uptoBulk d + uptoBulkAll r
def uptoBulkEntries {H : Type} : List (Lit × DataW H) → Nat
  | [] => 0
  | x :: r => uptoBulkEntry x + uptoBulkEntries r
def uptoBulkEntry {H : Type} : Lit × DataW H → Nat
  | (.string bytes, d) => bytes.length + uptoBulk d + 1
  | (_, d) => uptoBulk d + 1
 end
def uptoSmall : (H : Type) → List (DataW H) → Bool := fun _ ds => decide (uptoBulkAll ds ≤ 1048576)
def OpenSpec.upto (s : _root_.Go.ChangeSpec) : _root_.Go.OpenSpec := { _root_.Go.OpenSpec.ofChange s with cond := some uptoSmall }

/-- 'folkmootlaw04.IdentMeet', WHERE WHAT IT READS IS OF BULK AT MOST 1048576: true; the input reads as it did. -/
def identMeetUptoRow : OpenClaim := { program := "ytdllflllhjaimaadoor", sum := "048066f05da7334b13c8c054e780166b2418ef658bb43ae21d511c5fa6f546be", func := "folkmoot/folkmootlaw04.IdentMeet", spec := "identMeet", named := ["math/bits.deBruijn32tab"], apart := false, laid := [("math/bits.deBruijn32tab", laid_math_bits_deBruijn32tab)], narrowed := true }
def IdentMeetUptoSaid : Prop := identMeetUptoRow.holds Tryd.pinned (OpenSpec.upto identMeetSpec)

/-- 'folkmootlaw04.IdentHalves', WHERE WHAT IT READS IS OF BULK AT MOST 1048576: true; the input reads as it did. -/
def identHalvesUptoRow : OpenClaim := { program := "ytdllflllhjaimaadoor", sum := "048066f05da7334b13c8c054e780166b2418ef658bb43ae21d511c5fa6f546be", func := "folkmoot/folkmootlaw04.IdentHalves", spec := "identHalves", named := ["math/bits.deBruijn32tab"], apart := false, laid := [("math/bits.deBruijn32tab", laid_math_bits_deBruijn32tab)], narrowed := true }
def IdentHalvesUptoSaid : Prop := identHalvesUptoRow.holds Tryd.pinned (OpenSpec.upto identHalvesSpec)

/-- 'folkmootlaw04.IdentBuilt', WHERE WHAT IT READS IS OF BULK AT MOST 1048576: true; the input reads as it did. -/
def identBuiltUptoRow : OpenClaim := { program := "ytdllflllhjaimaadoor", sum := "048066f05da7334b13c8c054e780166b2418ef658bb43ae21d511c5fa6f546be", func := "folkmoot/folkmootlaw04.IdentBuilt", spec := "identBuilt", named := ["math/bits.deBruijn32tab"], apart := false, laid := [("math/bits.deBruijn32tab", laid_math_bits_deBruijn32tab)], narrowed := true }
def IdentBuiltUptoSaid : Prop := identBuiltUptoRow.holds Tryd.pinned (OpenSpec.upto identBuiltSpec)

/-- 'folkmootlaw04.IdentSets', WHERE WHAT IT READS IS OF BULK AT MOST 1048576: true; the input reads as it did. -/
def identSetsUptoRow : OpenClaim := { program := "ytdllflllhjaimaadoor", sum := "048066f05da7334b13c8c054e780166b2418ef658bb43ae21d511c5fa6f546be", func := "folkmoot/folkmootlaw04.IdentSets", spec := "identSets", named := ["math/bits.deBruijn32tab"], apart := false, laid := [("math/bits.deBruijn32tab", laid_math_bits_deBruijn32tab)], narrowed := true }
def IdentSetsUptoSaid : Prop := identSetsUptoRow.holds Tryd.pinned (OpenSpec.upto identSetsSpec)

/-- 'folkmootlaw04.IdentOrder', WHERE WHAT IT READS IS OF BULK AT MOST 1048576: true; the input reads as it did. -/
def identOrderUptoRow : OpenClaim := { program := "ytdllflllhjaimaadoor", sum := "048066f05da7334b13c8c054e780166b2418ef658bb43ae21d511c5fa6f546be", func := "folkmoot/folkmootlaw04.IdentOrder", spec := "identOrder", named := ["math/bits.deBruijn32tab"], apart := false, laid := [("math/bits.deBruijn32tab", laid_math_bits_deBruijn32tab)], narrowed := true }
def IdentOrderUptoSaid : Prop := identOrderUptoRow.holds Tryd.pinned (OpenSpec.upto identOrderSpec)

end Rows
end Go.Proofs.YtdllflllhjaimaaDoor
