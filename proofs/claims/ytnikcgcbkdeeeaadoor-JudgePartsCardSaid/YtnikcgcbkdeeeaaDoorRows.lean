/-
  NARROWER THAN 'FOR EVERY INPUT', by the rows' own cells (each row's printed sentence says how): JudgeTotals: laid · JudgeMixes: laid · JudgeViews: laid · JudgeGood: laid · JudgeBad: laid · JudgeParts: laid · JudgeOthers: laid.
  DERIVED. THE GIVEN ROWS OF THIS SEAT. 7 by the template 'for every input the law returns true; each argument reads behind the call as it read before'; 0 by the template 'total and deterministic' (their statements: YtnikcgcbkdeeeaaDoorTotals.lean).
  GIVEN WITH THE SEED: the statements are not yours to turn. If you find one false, say at which input.
  Laid BY PROGRAM, IN A SANDBOX (cutbox-rows.mjs): the forced cells as the released guide's own fill.sh prints them over the translation 5a6c08cf8e814d17… (all of the seat's roots in one cut). By AI agents, Wed Nov 11 2026. No macro, syntax, notation, axiom, sorry.
-/
import Derived.Test.YtnikcgcbkdeeeaaDoorChecked
import GoSem.Claim
import GoSem.ClaimJoined
import GoSem.ClaimMapViews
import Derived.JoinedTies
import Derived.KernelRfl
namespace Go.Proofs.YtnikcgcbkdeeeaaDoor
/- THE CELL 'sum', in the pinned program and in every row, IS THE sha256 OF THE DUMP (.gsa) THAT YtnikcgcbkdeeeaaDoorProg.lean LOADS. Nothing in Lean hashes anything: it is a label: what it is worth is what the hold of that sum in a sandbox is worth. -/
noncomputable def Tryd.pinned : Pinned := { name := "ytnikcgcbkdeeeaadoor", sum := "5a6c08cf8e814d17c96c88d706cca305ecc15005d55d402ea58ba583a0ae9769", checked := Tryd.checked }
namespace Rows
def none {H : Type} : Left H := { results := [], args := [] }

/- WHAT THE LISTED PACKAGE-LEVEL VARIABLES READ AS WHEN THE CALL BEGINS. Each datum BY PROGRAM (the guide's laid-datum.mjs) off the statement by which the dump's own 'gosem.cut.vars' lays the variable. In a bare row this is a premise. The card (YtnikcgcbkdeeeaaDoorCards.lean) ties it to the program's text. -/
def laid_math_bits_deBruijn32tab {H : Type} : DataW H := .agg [.lit (.int .u8 0), .lit (.int .u8 1), .lit (.int .u8 28), .lit (.int .u8 2), .lit (.int .u8 29), .lit (.int .u8 14), .lit (.int .u8 24), .lit (.int .u8 3), .lit (.int .u8 30), .lit (.int .u8 22), .lit (.int .u8 20), .lit (.int .u8 15), .lit (.int .u8 25), .lit (.int .u8 17), .lit (.int .u8 4), .lit (.int .u8 8), .lit (.int .u8 31), .lit (.int .u8 27), .lit (.int .u8 13), .lit (.int .u8 23), .lit (.int .u8 21), .lit (.int .u8 19), .lit (.int .u8 16), .lit (.int .u8 7), .lit (.int .u8 26), .lit (.int .u8 12), .lit (.int .u8 18), .lit (.int .u8 6), .lit (.int .u8 11), .lit (.int .u8 5), .lit (.int .u8 10), .lit (.int .u8 9)]

/-- 'folkmootlaw19.JudgeTotals': WHATEVER THE INPUT: true; the input reads as it did. -/
def judgeTotalsSpec : ChangeSpec := { name := "judgeTotals", fn := fun _ => fun
  | [d1, d2] => { results := [.lit (.bool true)], args := [d1, d2] }
  | _ => none }
def judgeTotalsRow : OpenClaim := { program := "ytnikcgcbkdeeeaadoor", sum := "5a6c08cf8e814d17c96c88d706cca305ecc15005d55d402ea58ba583a0ae9769", func := "folkmoot/folkmootlaw19.JudgeTotals", spec := "judgeTotals", unfollowed := true, recurses := true, named := ["math/bits.deBruijn32tab"], apart := false, laid := [("math/bits.deBruijn32tab", laid_math_bits_deBruijn32tab)] }
def JudgeTotalsSaid : Prop := judgeTotalsRow.holds Tryd.pinned (OpenSpec.ofChange judgeTotalsSpec)

/-- ITS FALSE NEIGHBOUR: 'it returns false'. Refute it at one input. -/
def judgeTotalsWrong : ChangeSpec := { name := "judgeTotals", fn := fun _ => fun
  | [d1, d2] => { results := [.lit (.bool false)], args := [d1, d2] }
  | _ => none }
def JudgeTotalsWrongFalsely : Prop := judgeTotalsRow.holds Tryd.pinned (OpenSpec.ofChange judgeTotalsWrong)

/-- 'folkmootlaw19.JudgeMixes': WHATEVER THE INPUT: true; the input reads as it did. -/
def judgeMixesSpec : ChangeSpec := { name := "judgeMixes", fn := fun _ => fun
  | [d1, d2, d3, d4] => { results := [.lit (.bool true)], args := [d1, d2, d3, d4] }
  | _ => none }
def judgeMixesRow : OpenClaim := { program := "ytnikcgcbkdeeeaadoor", sum := "5a6c08cf8e814d17c96c88d706cca305ecc15005d55d402ea58ba583a0ae9769", func := "folkmoot/folkmootlaw19.JudgeMixes", spec := "judgeMixes", unfollowed := true, recurses := true, named := ["math/bits.deBruijn32tab"], apart := false, laid := [("math/bits.deBruijn32tab", laid_math_bits_deBruijn32tab)] }
def JudgeMixesSaid : Prop := judgeMixesRow.holds Tryd.pinned (OpenSpec.ofChange judgeMixesSpec)

/-- ITS FALSE NEIGHBOUR: 'it returns false'. Refute it at one input. -/
def judgeMixesWrong : ChangeSpec := { name := "judgeMixes", fn := fun _ => fun
  | [d1, d2, d3, d4] => { results := [.lit (.bool false)], args := [d1, d2, d3, d4] }
  | _ => none }
def JudgeMixesWrongFalsely : Prop := judgeMixesRow.holds Tryd.pinned (OpenSpec.ofChange judgeMixesWrong)

/-- 'folkmootlaw19.JudgeViews': WHATEVER THE INPUT: true; the input reads as it did. -/
def judgeViewsSpec : ChangeSpec := { name := "judgeViews", fn := fun _ => fun
  | [d] => { results := [.lit (.bool true)], args := [d] }
  | _ => none }
def judgeViewsRow : OpenClaim := { program := "ytnikcgcbkdeeeaadoor", sum := "5a6c08cf8e814d17c96c88d706cca305ecc15005d55d402ea58ba583a0ae9769", func := "folkmoot/folkmootlaw19.JudgeViews", spec := "judgeViews", unfollowed := true, recurses := true, named := ["math/bits.deBruijn32tab"], apart := false, laid := [("math/bits.deBruijn32tab", laid_math_bits_deBruijn32tab)] }
def JudgeViewsSaid : Prop := judgeViewsRow.holds Tryd.pinned (OpenSpec.ofChange judgeViewsSpec)

/-- ITS FALSE NEIGHBOUR: 'it returns false'. Refute it at one input. -/
def judgeViewsWrong : ChangeSpec := { name := "judgeViews", fn := fun _ => fun
  | [d] => { results := [.lit (.bool false)], args := [d] }
  | _ => none }
def JudgeViewsWrongFalsely : Prop := judgeViewsRow.holds Tryd.pinned (OpenSpec.ofChange judgeViewsWrong)

/-- 'folkmootlaw19.JudgeGood': WHATEVER THE INPUT: true; the input reads as it did. -/
def judgeGoodSpec : ChangeSpec := { name := "judgeGood", fn := fun _ => fun
  | [d1, d2] => { results := [.lit (.bool true)], args := [d1, d2] }
  | _ => none }
def judgeGoodRow : OpenClaim := { program := "ytnikcgcbkdeeeaadoor", sum := "5a6c08cf8e814d17c96c88d706cca305ecc15005d55d402ea58ba583a0ae9769", func := "folkmoot/folkmootlaw19.JudgeGood", spec := "judgeGood", unfollowed := true, recurses := true, named := ["math/bits.deBruijn32tab"], apart := false, laid := [("math/bits.deBruijn32tab", laid_math_bits_deBruijn32tab)] }
def JudgeGoodSaid : Prop := judgeGoodRow.holds Tryd.pinned (OpenSpec.ofChange judgeGoodSpec)

/-- ITS FALSE NEIGHBOUR: 'it returns false'. Refute it at one input. -/
def judgeGoodWrong : ChangeSpec := { name := "judgeGood", fn := fun _ => fun
  | [d1, d2] => { results := [.lit (.bool false)], args := [d1, d2] }
  | _ => none }
def JudgeGoodWrongFalsely : Prop := judgeGoodRow.holds Tryd.pinned (OpenSpec.ofChange judgeGoodWrong)

/-- 'folkmootlaw19.JudgeBad': WHATEVER THE INPUT: true; the input reads as it did. -/
def judgeBadSpec : ChangeSpec := { name := "judgeBad", fn := fun _ => fun
  | [d1, d2, d3, d4, d5] => { results := [.lit (.bool true)], args := [d1, d2, d3, d4, d5] }
  | _ => none }
def judgeBadRow : OpenClaim := { program := "ytnikcgcbkdeeeaadoor", sum := "5a6c08cf8e814d17c96c88d706cca305ecc15005d55d402ea58ba583a0ae9769", func := "folkmoot/folkmootlaw19.JudgeBad", spec := "judgeBad", unfollowed := true, recurses := true, named := ["math/bits.deBruijn32tab"], apart := false, laid := [("math/bits.deBruijn32tab", laid_math_bits_deBruijn32tab)] }
def JudgeBadSaid : Prop := judgeBadRow.holds Tryd.pinned (OpenSpec.ofChange judgeBadSpec)

/-- ITS FALSE NEIGHBOUR: 'it returns false'. Refute it at one input. -/
def judgeBadWrong : ChangeSpec := { name := "judgeBad", fn := fun _ => fun
  | [d1, d2, d3, d4, d5] => { results := [.lit (.bool false)], args := [d1, d2, d3, d4, d5] }
  | _ => none }
def JudgeBadWrongFalsely : Prop := judgeBadRow.holds Tryd.pinned (OpenSpec.ofChange judgeBadWrong)

/-- 'folkmootlaw19.JudgeParts': WHATEVER THE INPUT: true; the input reads as it did. -/
def judgePartsSpec : ChangeSpec := { name := "judgeParts", fn := fun _ => fun
  | [d1, d2, d3] => { results := [.lit (.bool true)], args := [d1, d2, d3] }
  | _ => none }
def judgePartsRow : OpenClaim := { program := "ytnikcgcbkdeeeaadoor", sum := "5a6c08cf8e814d17c96c88d706cca305ecc15005d55d402ea58ba583a0ae9769", func := "folkmoot/folkmootlaw19.JudgeParts", spec := "judgeParts", unfollowed := true, recurses := true, named := ["math/bits.deBruijn32tab"], apart := false, laid := [("math/bits.deBruijn32tab", laid_math_bits_deBruijn32tab)] }
def JudgePartsSaid : Prop := judgePartsRow.holds Tryd.pinned (OpenSpec.ofChange judgePartsSpec)

/-- ITS FALSE NEIGHBOUR: 'it returns false'. Refute it at one input. -/
def judgePartsWrong : ChangeSpec := { name := "judgeParts", fn := fun _ => fun
  | [d1, d2, d3] => { results := [.lit (.bool false)], args := [d1, d2, d3] }
  | _ => none }
def JudgePartsWrongFalsely : Prop := judgePartsRow.holds Tryd.pinned (OpenSpec.ofChange judgePartsWrong)

/-- 'folkmootlaw19.JudgeOthers': WHATEVER THE INPUT: true; the input reads as it did. -/
def judgeOthersSpec : ChangeSpec := { name := "judgeOthers", fn := fun _ => fun
  | [d1, d2, d3] => { results := [.lit (.bool true)], args := [d1, d2, d3] }
  | _ => none }
def judgeOthersRow : OpenClaim := { program := "ytnikcgcbkdeeeaadoor", sum := "5a6c08cf8e814d17c96c88d706cca305ecc15005d55d402ea58ba583a0ae9769", func := "folkmoot/folkmootlaw19.JudgeOthers", spec := "judgeOthers", unfollowed := true, recurses := true, named := ["math/bits.deBruijn32tab"], apart := false, laid := [("math/bits.deBruijn32tab", laid_math_bits_deBruijn32tab)] }
def JudgeOthersSaid : Prop := judgeOthersRow.holds Tryd.pinned (OpenSpec.ofChange judgeOthersSpec)

/-- ITS FALSE NEIGHBOUR: 'it returns false'. Refute it at one input. -/
def judgeOthersWrong : ChangeSpec := { name := "judgeOthers", fn := fun _ => fun
  | [d1, d2, d3] => { results := [.lit (.bool false)], args := [d1, d2, d3] }
  | _ => none }
def JudgeOthersWrongFalsely : Prop := judgeOthersRow.holds Tryd.pinned (OpenSpec.ofChange judgeOthersWrong)

/- THE SECOND FORM. 'bulk': how many values and letters a reading holds, each counted each time it is reached (what is shared counts as often as it is met; a slice's spare places count too). A statement '..UptoSaid' is the law's where the arguments, and the package variables that the reading takes, are together of bulk at most 1048576: NARROWER than '..Said'. Prove '..Said' where nothing that the law and all that it calls make is longer than what came in: it says more and counts as full. Else prove '..UptoSaid'. A law counts once. -/
mutual
def uptoBulk {H : Type} : DataW H → Nat
  | .lit (.string bytes) => bytes.length + 1
  | .lit _ => 1
  | .nil => 1
  | .ptr d => uptoBulk d + 1
  | .slice elems spare => uptoBulkAll elems + uptoBulkAll spare + 1
  | .agg parts => uptoBulkAll parts + 1
  | .iface _ d => uptoBulk d + 1
  | .map entries => uptoBulkEntries entries + 1
  | .held _ => 1
def uptoBulkAll {H : Type} : List (DataW H) → Nat
  | [] => 0
  | d :: r => uptoBulk d + uptoBulkAll r
def uptoBulkEntries {H : Type} : List (Lit × DataW H) → Nat
  | [] => 0
  | x :: r => uptoBulkEntry x + uptoBulkEntries r
def uptoBulkEntry {H : Type} : Lit × DataW H → Nat
  | (.string bytes, d) => bytes.length + uptoBulk d + 1
  | (_, d) => uptoBulk d + 1
 end
def uptoSmall : (H : Type) → List (DataW H) → Bool := fun _ ds => decide (uptoBulkAll ds ≤ 1048576)
def OpenSpec.upto (s : _root_.Go.ChangeSpec) : _root_.Go.OpenSpec := { _root_.Go.OpenSpec.ofChange s with cond := some uptoSmall }

/-- 'folkmootlaw19.JudgeTotals', WHERE WHAT IT READS IS OF BULK AT MOST 1048576: true; the input reads as it did. -/
def judgeTotalsUptoRow : OpenClaim := { program := "ytnikcgcbkdeeeaadoor", sum := "5a6c08cf8e814d17c96c88d706cca305ecc15005d55d402ea58ba583a0ae9769", func := "folkmoot/folkmootlaw19.JudgeTotals", spec := "judgeTotals", unfollowed := true, recurses := true, named := ["math/bits.deBruijn32tab"], apart := false, laid := [("math/bits.deBruijn32tab", laid_math_bits_deBruijn32tab)], narrowed := true }
def JudgeTotalsUptoSaid : Prop := judgeTotalsUptoRow.holds Tryd.pinned (OpenSpec.upto judgeTotalsSpec)

/-- 'folkmootlaw19.JudgeMixes', WHERE WHAT IT READS IS OF BULK AT MOST 1048576: true; the input reads as it did. -/
def judgeMixesUptoRow : OpenClaim := { program := "ytnikcgcbkdeeeaadoor", sum := "5a6c08cf8e814d17c96c88d706cca305ecc15005d55d402ea58ba583a0ae9769", func := "folkmoot/folkmootlaw19.JudgeMixes", spec := "judgeMixes", unfollowed := true, recurses := true, named := ["math/bits.deBruijn32tab"], apart := false, laid := [("math/bits.deBruijn32tab", laid_math_bits_deBruijn32tab)], narrowed := true }
def JudgeMixesUptoSaid : Prop := judgeMixesUptoRow.holds Tryd.pinned (OpenSpec.upto judgeMixesSpec)

/-- 'folkmootlaw19.JudgeViews', WHERE WHAT IT READS IS OF BULK AT MOST 1048576: true; the input reads as it did. -/
def judgeViewsUptoRow : OpenClaim := { program := "ytnikcgcbkdeeeaadoor", sum := "5a6c08cf8e814d17c96c88d706cca305ecc15005d55d402ea58ba583a0ae9769", func := "folkmoot/folkmootlaw19.JudgeViews", spec := "judgeViews", unfollowed := true, recurses := true, named := ["math/bits.deBruijn32tab"], apart := false, laid := [("math/bits.deBruijn32tab", laid_math_bits_deBruijn32tab)], narrowed := true }
def JudgeViewsUptoSaid : Prop := judgeViewsUptoRow.holds Tryd.pinned (OpenSpec.upto judgeViewsSpec)

/-- 'folkmootlaw19.JudgeGood', WHERE WHAT IT READS IS OF BULK AT MOST 1048576: true; the input reads as it did. -/
def judgeGoodUptoRow : OpenClaim := { program := "ytnikcgcbkdeeeaadoor", sum := "5a6c08cf8e814d17c96c88d706cca305ecc15005d55d402ea58ba583a0ae9769", func := "folkmoot/folkmootlaw19.JudgeGood", spec := "judgeGood", unfollowed := true, recurses := true, named := ["math/bits.deBruijn32tab"], apart := false, laid := [("math/bits.deBruijn32tab", laid_math_bits_deBruijn32tab)], narrowed := true }
def JudgeGoodUptoSaid : Prop := judgeGoodUptoRow.holds Tryd.pinned (OpenSpec.upto judgeGoodSpec)

/-- 'folkmootlaw19.JudgeBad', WHERE WHAT IT READS IS OF BULK AT MOST 1048576: true; the input reads as it did. -/
def judgeBadUptoRow : OpenClaim := { program := "ytnikcgcbkdeeeaadoor", sum := "5a6c08cf8e814d17c96c88d706cca305ecc15005d55d402ea58ba583a0ae9769", func := "folkmoot/folkmootlaw19.JudgeBad", spec := "judgeBad", unfollowed := true, recurses := true, named := ["math/bits.deBruijn32tab"], apart := false, laid := [("math/bits.deBruijn32tab", laid_math_bits_deBruijn32tab)], narrowed := true }
def JudgeBadUptoSaid : Prop := judgeBadUptoRow.holds Tryd.pinned (OpenSpec.upto judgeBadSpec)

/-- 'folkmootlaw19.JudgeParts', WHERE WHAT IT READS IS OF BULK AT MOST 1048576: true; the input reads as it did. -/
def judgePartsUptoRow : OpenClaim := { program := "ytnikcgcbkdeeeaadoor", sum := "5a6c08cf8e814d17c96c88d706cca305ecc15005d55d402ea58ba583a0ae9769", func := "folkmoot/folkmootlaw19.JudgeParts", spec := "judgeParts", unfollowed := true, recurses := true, named := ["math/bits.deBruijn32tab"], apart := false, laid := [("math/bits.deBruijn32tab", laid_math_bits_deBruijn32tab)], narrowed := true }
def JudgePartsUptoSaid : Prop := judgePartsUptoRow.holds Tryd.pinned (OpenSpec.upto judgePartsSpec)

/-- 'folkmootlaw19.JudgeOthers', WHERE WHAT IT READS IS OF BULK AT MOST 1048576: true; the input reads as it did. -/
def judgeOthersUptoRow : OpenClaim := { program := "ytnikcgcbkdeeeaadoor", sum := "5a6c08cf8e814d17c96c88d706cca305ecc15005d55d402ea58ba583a0ae9769", func := "folkmoot/folkmootlaw19.JudgeOthers", spec := "judgeOthers", unfollowed := true, recurses := true, named := ["math/bits.deBruijn32tab"], apart := false, laid := [("math/bits.deBruijn32tab", laid_math_bits_deBruijn32tab)], narrowed := true }
def JudgeOthersUptoSaid : Prop := judgeOthersUptoRow.holds Tryd.pinned (OpenSpec.upto judgeOthersSpec)

end Rows
end Go.Proofs.YtnikcgcbkdeeeaaDoor
