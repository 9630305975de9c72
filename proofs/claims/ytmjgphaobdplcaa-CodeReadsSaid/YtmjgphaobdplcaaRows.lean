/-
  No cell of these rows narrows 'for every input' (looked for: loops, veiled, ifaces, maps, wideKeys, modest, calm, conditions, laid).
  DERIVED. THE GIVEN ROWS OF THIS SEAT. 6 by the template 'for every input the law returns true; each argument reads behind the call as it read before'; 0 by the template 'total and deterministic' (their statements: YtmjgphaobdplcaaTotals.lean).
  GIVEN WITH THE SEED: the statements are not yours to turn. If you find one false, say at which input.
  Laid BY PROGRAM, IN A SANDBOX (cutbox-rows.mjs): the forced cells as the released guide's own fill.sh prints them over the translation 8fa2837d6ad2e909… (all of the seat's roots in one cut). By AI agents, Wed Nov 11 2026. No macro, syntax, notation, axiom, sorry.
-/
import Derived.Test.YtmjgphaobdplcaaChecked
import GoSem.Claim
import GoSem.ClaimJoined
import GoSem.ClaimMapViews
import Derived.JoinedTies
import Derived.KernelRfl
namespace Go.Proofs.Ytmjgphaobdplcaa
/- THE CELL 'sum', in the pinned program and in every row, IS THE sha256 OF THE DUMP (.gsa) THAT YtmjgphaobdplcaaProg.lean LOADS. Nothing in Lean hashes anything: it is a label: what it is worth is what the hold of that sum in a sandbox is worth. -/
noncomputable def Try.pinned : Pinned := { name := "ytmjgphaobdplcaa", sum := "8fa2837d6ad2e9094ee242d20b387efd44dba722d0e64d494d7ea3f4578e43df", checked := Try.checked }
namespace Rows
def none {H : Type} : Left H := { results := [], args := [] }

/-- 'folkmootlaw02.CodeSeals': WHATEVER THE INPUT: true; the input reads as it did. -/
def codeSealsSpec : ChangeSpec := { name := "codeSeals", fn := fun _ => fun
  | [d1, d2] => { results := [.lit (.bool true)], args := [d1, d2] }
  | _ => none }
def codeSealsRow : OpenClaim := { program := "ytmjgphaobdplcaa", sum := "8fa2837d6ad2e9094ee242d20b387efd44dba722d0e64d494d7ea3f4578e43df", func := "folkmoot/folkmootlaw02.CodeSeals", spec := "codeSeals", apart := false }
def CodeSealsSaid : Prop := codeSealsRow.holds Try.pinned (OpenSpec.ofChange codeSealsSpec)

/-- ITS FALSE NEIGHBOUR: 'it returns false'. Refute it at one input. -/
def codeSealsWrong : ChangeSpec := { name := "codeSeals", fn := fun _ => fun
  | [d1, d2] => { results := [.lit (.bool false)], args := [d1, d2] }
  | _ => none }
def CodeSealsWrongFalsely : Prop := codeSealsRow.holds Try.pinned (OpenSpec.ofChange codeSealsWrong)

/-- 'folkmootlaw02.CodeBursts': WHATEVER THE INPUT: true; the input reads as it did. -/
def codeBurstsSpec : ChangeSpec := { name := "codeBursts", fn := fun _ => fun
  | [d1, d2, d3] => { results := [.lit (.bool true)], args := [d1, d2, d3] }
  | _ => none }
def codeBurstsRow : OpenClaim := { program := "ytmjgphaobdplcaa", sum := "8fa2837d6ad2e9094ee242d20b387efd44dba722d0e64d494d7ea3f4578e43df", func := "folkmoot/folkmootlaw02.CodeBursts", spec := "codeBursts", apart := false }
def CodeBurstsSaid : Prop := codeBurstsRow.holds Try.pinned (OpenSpec.ofChange codeBurstsSpec)

/-- ITS FALSE NEIGHBOUR: 'it returns false'. Refute it at one input. -/
def codeBurstsWrong : ChangeSpec := { name := "codeBursts", fn := fun _ => fun
  | [d1, d2, d3] => { results := [.lit (.bool false)], args := [d1, d2, d3] }
  | _ => none }
def CodeBurstsWrongFalsely : Prop := codeBurstsRow.holds Try.pinned (OpenSpec.ofChange codeBurstsWrong)

/-- 'folkmootlaw02.CodeJoins': WHATEVER THE INPUT: true; the input reads as it did. -/
def codeJoinsSpec : ChangeSpec := { name := "codeJoins", fn := fun _ => fun
  | [d1, d2] => { results := [.lit (.bool true)], args := [d1, d2] }
  | _ => none }
def codeJoinsRow : OpenClaim := { program := "ytmjgphaobdplcaa", sum := "8fa2837d6ad2e9094ee242d20b387efd44dba722d0e64d494d7ea3f4578e43df", func := "folkmoot/folkmootlaw02.CodeJoins", spec := "codeJoins", apart := false }
def CodeJoinsSaid : Prop := codeJoinsRow.holds Try.pinned (OpenSpec.ofChange codeJoinsSpec)

/-- ITS FALSE NEIGHBOUR: 'it returns false'. Refute it at one input. -/
def codeJoinsWrong : ChangeSpec := { name := "codeJoins", fn := fun _ => fun
  | [d1, d2] => { results := [.lit (.bool false)], args := [d1, d2] }
  | _ => none }
def CodeJoinsWrongFalsely : Prop := codeJoinsRow.holds Try.pinned (OpenSpec.ofChange codeJoinsWrong)

/-- 'folkmootlaw02.CodeShort': WHATEVER THE INPUT: true; the input reads as it did. -/
def codeShortSpec : ChangeSpec := { name := "codeShort", fn := fun _ => fun
  | [d1, d2] => { results := [.lit (.bool true)], args := [d1, d2] }
  | _ => none }
def codeShortRow : OpenClaim := { program := "ytmjgphaobdplcaa", sum := "8fa2837d6ad2e9094ee242d20b387efd44dba722d0e64d494d7ea3f4578e43df", func := "folkmoot/folkmootlaw02.CodeShort", spec := "codeShort", apart := false }
def CodeShortSaid : Prop := codeShortRow.holds Try.pinned (OpenSpec.ofChange codeShortSpec)

/-- ITS FALSE NEIGHBOUR: 'it returns false'. Refute it at one input. -/
def codeShortWrong : ChangeSpec := { name := "codeShort", fn := fun _ => fun
  | [d1, d2] => { results := [.lit (.bool false)], args := [d1, d2] }
  | _ => none }
def CodeShortWrongFalsely : Prop := codeShortRow.holds Try.pinned (OpenSpec.ofChange codeShortWrong)

/-- 'folkmootlaw02.CodeNil': WHATEVER THE INPUT: true; the input reads as it did. -/
def codeNilSpec : ChangeSpec := { name := "codeNil", fn := fun _ => fun
  | [d] => { results := [.lit (.bool true)], args := [d] }
  | _ => none }
def codeNilRow : OpenClaim := { program := "ytmjgphaobdplcaa", sum := "8fa2837d6ad2e9094ee242d20b387efd44dba722d0e64d494d7ea3f4578e43df", func := "folkmoot/folkmootlaw02.CodeNil", spec := "codeNil", apart := false }
def CodeNilSaid : Prop := codeNilRow.holds Try.pinned (OpenSpec.ofChange codeNilSpec)

/-- ITS FALSE NEIGHBOUR: 'it returns false'. Refute it at one input. -/
def codeNilWrong : ChangeSpec := { name := "codeNil", fn := fun _ => fun
  | [d] => { results := [.lit (.bool false)], args := [d] }
  | _ => none }
def CodeNilWrongFalsely : Prop := codeNilRow.holds Try.pinned (OpenSpec.ofChange codeNilWrong)

/-- 'folkmootlaw02.CodeReads': WHATEVER THE INPUT: true; the input reads as it did. -/
def codeReadsSpec : ChangeSpec := { name := "codeReads", fn := fun _ => fun
  | [d1, d2] => { results := [.lit (.bool true)], args := [d1, d2] }
  | _ => none }
def codeReadsRow : OpenClaim := { program := "ytmjgphaobdplcaa", sum := "8fa2837d6ad2e9094ee242d20b387efd44dba722d0e64d494d7ea3f4578e43df", func := "folkmoot/folkmootlaw02.CodeReads", spec := "codeReads", apart := false }
def CodeReadsSaid : Prop := codeReadsRow.holds Try.pinned (OpenSpec.ofChange codeReadsSpec)

/-- ITS FALSE NEIGHBOUR: 'it returns false'. Refute it at one input. -/
def codeReadsWrong : ChangeSpec := { name := "codeReads", fn := fun _ => fun
  | [d1, d2] => { results := [.lit (.bool false)], args := [d1, d2] }
  | _ => none }
def CodeReadsWrongFalsely : Prop := codeReadsRow.holds Try.pinned (OpenSpec.ofChange codeReadsWrong)

/- THE SECOND FORM. 'bulk': how many values and letters a reading holds, each counted each time it is reached (what is shared counts as often as it is met; a slice's spare places count too). A statement '..UptoSaid' is the law's where the arguments, and the package variables that the reading takes, are together of bulk at most 1048576: NARROWER than '..Said'. Prove '..Said' where nothing that the law and all that it calls make is longer than what came in: it says more and counts as full. Else prove '..UptoSaid'. A law counts once. -/
mutual
def uptoBulk {H : Type} : DataW H → Nat
  | .lit (.string bytes) => bytes.length + 1
  | .lit _ => 1
  | .nil => 1
  | .ptr d => uptoBulk d + 1
  | .slice elems spare => uptoBulkAll elems + uptoBulkAll spare + 1
  | .agg parts => uptoBulkAll parts + 1
  | .iface _ d => uptoBulk d + 1
  | .map entries => uptoBulkEntries entries + 1
  | .held _ => 1
def uptoBulkAll {H : Type} : List (DataW H) → Nat
  | [] => 0
  | d :: r => uptoBulk d + uptoBulkAll r
def uptoBulkEntries {H : Type} : List (Lit × DataW H) → Nat
  | [] => 0
  | x :: r => uptoBulkEntry x + uptoBulkEntries r
def uptoBulkEntry {H : Type} : Lit × DataW H → Nat
  | (.string bytes, d) => bytes.length + uptoBulk d + 1
  | (_, d) => uptoBulk d + 1
 end
def uptoSmall : (H : Type) → List (DataW H) → Bool := fun _ ds => decide (uptoBulkAll ds ≤ 1048576)
def OpenSpec.upto (s : _root_.Go.ChangeSpec) : _root_.Go.OpenSpec := { _root_.Go.OpenSpec.ofChange s with cond := some uptoSmall }

/-- 'folkmootlaw02.CodeSeals', WHERE WHAT IT READS IS OF BULK AT MOST 1048576: true; the input reads as it did. -/
def codeSealsUptoRow : OpenClaim := { program := "ytmjgphaobdplcaa", sum := "8fa2837d6ad2e9094ee242d20b387efd44dba722d0e64d494d7ea3f4578e43df", func := "folkmoot/folkmootlaw02.CodeSeals", spec := "codeSeals", apart := false, narrowed := true }
def CodeSealsUptoSaid : Prop := codeSealsUptoRow.holds Try.pinned (OpenSpec.upto codeSealsSpec)

/-- 'folkmootlaw02.CodeBursts', WHERE WHAT IT READS IS OF BULK AT MOST 1048576: true; the input reads as it did. -/
def codeBurstsUptoRow : OpenClaim := { program := "ytmjgphaobdplcaa", sum := "8fa2837d6ad2e9094ee242d20b387efd44dba722d0e64d494d7ea3f4578e43df", func := "folkmoot/folkmootlaw02.CodeBursts", spec := "codeBursts", apart := false, narrowed := true }
def CodeBurstsUptoSaid : Prop := codeBurstsUptoRow.holds Try.pinned (OpenSpec.upto codeBurstsSpec)

/-- 'folkmootlaw02.CodeJoins', WHERE WHAT IT READS IS OF BULK AT MOST 1048576: true; the input reads as it did. -/
def codeJoinsUptoRow : OpenClaim := { program := "ytmjgphaobdplcaa", sum := "8fa2837d6ad2e9094ee242d20b387efd44dba722d0e64d494d7ea3f4578e43df", func := "folkmoot/folkmootlaw02.CodeJoins", spec := "codeJoins", apart := false, narrowed := true }
def CodeJoinsUptoSaid : Prop := codeJoinsUptoRow.holds Try.pinned (OpenSpec.upto codeJoinsSpec)

/-- 'folkmootlaw02.CodeShort', WHERE WHAT IT READS IS OF BULK AT MOST 1048576: true; the input reads as it did. -/
def codeShortUptoRow : OpenClaim := { program := "ytmjgphaobdplcaa", sum := "8fa2837d6ad2e9094ee242d20b387efd44dba722d0e64d494d7ea3f4578e43df", func := "folkmoot/folkmootlaw02.CodeShort", spec := "codeShort", apart := false, narrowed := true }
def CodeShortUptoSaid : Prop := codeShortUptoRow.holds Try.pinned (OpenSpec.upto codeShortSpec)

/-- 'folkmootlaw02.CodeNil', WHERE WHAT IT READS IS OF BULK AT MOST 1048576: true; the input reads as it did. -/
def codeNilUptoRow : OpenClaim := { program := "ytmjgphaobdplcaa", sum := "8fa2837d6ad2e9094ee242d20b387efd44dba722d0e64d494d7ea3f4578e43df", func := "folkmoot/folkmootlaw02.CodeNil", spec := "codeNil", apart := false, narrowed := true }
def CodeNilUptoSaid : Prop := codeNilUptoRow.holds Try.pinned (OpenSpec.upto codeNilSpec)

/-- 'folkmootlaw02.CodeReads', WHERE WHAT IT READS IS OF BULK AT MOST 1048576: true; the input reads as it did. -/
def codeReadsUptoRow : OpenClaim := { program := "ytmjgphaobdplcaa", sum := "8fa2837d6ad2e9094ee242d20b387efd44dba722d0e64d494d7ea3f4578e43df", func := "folkmoot/folkmootlaw02.CodeReads", spec := "codeReads", apart := false, narrowed := true }
def CodeReadsUptoSaid : Prop := codeReadsUptoRow.holds Try.pinned (OpenSpec.upto codeReadsSpec)

end Rows
end Go.Proofs.Ytmjgphaobdplcaa
