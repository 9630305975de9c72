/-
  No cell of these rows narrows 'for every input' (looked for: loops, veiled, ifaces, maps, wideKeys, modest, calm, conditions, laid).
  DERIVED. THE GIVEN ROWS OF THIS SEAT. 7 by the template 'for every input the law returns true; each argument reads behind the call as it read before'; 0 by the template 'total and deterministic' (their statements: YtkbllbphkdnmbaaTotals.lean).
  GIVEN WITH THE SEED: the statements are not yours to turn. If you find one false, say at which input.
  Laid BY PROGRAM, IN A SANDBOX (cutbox-rows.mjs): the forced cells as the released guide's own fill.sh prints them over the translation 9ba10bb16549a21b… (all of the seat's roots in one cut). By AI agents, Wed Nov 11 2026. No macro, syntax, notation, axiom, sorry.
-/
import Derived.Test.YtkbllbphkdnmbaaChecked
import GoSem.Claim
import GoSem.ClaimJoined
import GoSem.ClaimMapViews
import Derived.JoinedTies
import Derived.KernelRfl
namespace Go.Proofs.Ytkbllbphkdnmbaa
/- THE CELL 'sum', in the pinned program and in every row, IS THE sha256 OF THE DUMP (.gsa) THAT YtkbllbphkdnmbaaProg.lean LOADS. Nothing in Lean hashes anything: it is a label: what it is worth is what the hold of that sum in a sandbox is worth. -/
noncomputable def Try.pinned : Pinned := { name := "ytkbllbphkdnmbaa", sum := "9ba10bb16549a21bafa0a04aa0642ab704f45ea0816f71df65dcab5ae0c4e3f0", checked := Try.checked }
namespace Rows
def none {H : Type} : Left H := { results := [], args := [] }

/-- 'folkmootlaw06.CutRests': WHATEVER THE INPUT: true; the input reads as it did. -/
def cutRestsSpec : ChangeSpec := { name := "cutRests", fn := fun _ => fun
  | [d1, d2, d3] => { results := [.lit (.bool true)], args := [d1, d2, d3] }
  | _ => none }
def cutRestsRow : OpenClaim := { program := "ytkbllbphkdnmbaa", sum := "9ba10bb16549a21bafa0a04aa0642ab704f45ea0816f71df65dcab5ae0c4e3f0", func := "folkmoot/folkmootlaw06.CutRests", spec := "cutRests", unfollowed := true, recurses := true, apart := false }
def CutRestsSaid : Prop := cutRestsRow.holds Try.pinned (OpenSpec.ofChange cutRestsSpec)

/-- ITS FALSE NEIGHBOUR: 'it returns false'. Refute it at one input. -/
def cutRestsWrong : ChangeSpec := { name := "cutRests", fn := fun _ => fun
  | [d1, d2, d3] => { results := [.lit (.bool false)], args := [d1, d2, d3] }
  | _ => none }
def CutRestsWrongFalsely : Prop := cutRestsRow.holds Try.pinned (OpenSpec.ofChange cutRestsWrong)

/-- 'folkmootlaw06.CutNone': WHATEVER THE INPUT: true; the input reads as it did. -/
def cutNoneSpec : ChangeSpec := { name := "cutNone", fn := fun _ => fun
  | [d1, d2, d3] => { results := [.lit (.bool true)], args := [d1, d2, d3] }
  | _ => none }
def cutNoneRow : OpenClaim := { program := "ytkbllbphkdnmbaa", sum := "9ba10bb16549a21bafa0a04aa0642ab704f45ea0816f71df65dcab5ae0c4e3f0", func := "folkmoot/folkmootlaw06.CutNone", spec := "cutNone", unfollowed := true, recurses := true, apart := false }
def CutNoneSaid : Prop := cutNoneRow.holds Try.pinned (OpenSpec.ofChange cutNoneSpec)

/-- ITS FALSE NEIGHBOUR: 'it returns false'. Refute it at one input. -/
def cutNoneWrong : ChangeSpec := { name := "cutNone", fn := fun _ => fun
  | [d1, d2, d3] => { results := [.lit (.bool false)], args := [d1, d2, d3] }
  | _ => none }
def CutNoneWrongFalsely : Prop := cutNoneRow.holds Try.pinned (OpenSpec.ofChange cutNoneWrong)

/-- 'folkmootlaw06.CutMeets': WHATEVER THE INPUT: true; the input reads as it did. -/
def cutMeetsSpec : ChangeSpec := { name := "cutMeets", fn := fun _ => fun
  | [d1, d2, d3] => { results := [.lit (.bool true)], args := [d1, d2, d3] }
  | _ => none }
def cutMeetsRow : OpenClaim := { program := "ytkbllbphkdnmbaa", sum := "9ba10bb16549a21bafa0a04aa0642ab704f45ea0816f71df65dcab5ae0c4e3f0", func := "folkmoot/folkmootlaw06.CutMeets", spec := "cutMeets", inPlace := ["slices.overlaps[folkmoot/api.State]"], unfollowed := true, recurses := true, apart := false }
def CutMeetsSaid : Prop := cutMeetsRow.holds Try.pinned (OpenSpec.ofChange cutMeetsSpec)

/-- ITS FALSE NEIGHBOUR: 'it returns false'. Refute it at one input. -/
def cutMeetsWrong : ChangeSpec := { name := "cutMeets", fn := fun _ => fun
  | [d1, d2, d3] => { results := [.lit (.bool false)], args := [d1, d2, d3] }
  | _ => none }
def CutMeetsWrongFalsely : Prop := cutMeetsRow.holds Try.pinned (OpenSpec.ofChange cutMeetsWrong)

/-- 'folkmootlaw06.CutAgain': WHATEVER THE INPUT: true; the input reads as it did. -/
def cutAgainSpec : ChangeSpec := { name := "cutAgain", fn := fun _ => fun
  | [d1, d2] => { results := [.lit (.bool true)], args := [d1, d2] }
  | _ => none }
def cutAgainRow : OpenClaim := { program := "ytkbllbphkdnmbaa", sum := "9ba10bb16549a21bafa0a04aa0642ab704f45ea0816f71df65dcab5ae0c4e3f0", func := "folkmoot/folkmootlaw06.CutAgain", spec := "cutAgain", inPlace := ["slices.overlaps[folkmoot/api.State]"], unfollowed := true, recurses := true, apart := false }
def CutAgainSaid : Prop := cutAgainRow.holds Try.pinned (OpenSpec.ofChange cutAgainSpec)

/-- ITS FALSE NEIGHBOUR: 'it returns false'. Refute it at one input. -/
def cutAgainWrong : ChangeSpec := { name := "cutAgain", fn := fun _ => fun
  | [d1, d2] => { results := [.lit (.bool false)], args := [d1, d2] }
  | _ => none }
def CutAgainWrongFalsely : Prop := cutAgainRow.holds Try.pinned (OpenSpec.ofChange cutAgainWrong)

/-- 'folkmootlaw06.CutKeeps': WHATEVER THE INPUT: true; the input reads as it did. -/
def cutKeepsSpec : ChangeSpec := { name := "cutKeeps", fn := fun _ => fun
  | [d] => { results := [.lit (.bool true)], args := [d] }
  | _ => none }
def cutKeepsRow : OpenClaim := { program := "ytkbllbphkdnmbaa", sum := "9ba10bb16549a21bafa0a04aa0642ab704f45ea0816f71df65dcab5ae0c4e3f0", func := "folkmoot/folkmootlaw06.CutKeeps", spec := "cutKeeps", inPlace := ["slices.overlaps[folkmoot/api.State]"], unfollowed := true, recurses := true, apart := false }
def CutKeepsSaid : Prop := cutKeepsRow.holds Try.pinned (OpenSpec.ofChange cutKeepsSpec)

/-- ITS FALSE NEIGHBOUR: 'it returns false'. Refute it at one input. -/
def cutKeepsWrong : ChangeSpec := { name := "cutKeeps", fn := fun _ => fun
  | [d] => { results := [.lit (.bool false)], args := [d] }
  | _ => none }
def CutKeepsWrongFalsely : Prop := cutKeepsRow.holds Try.pinned (OpenSpec.ofChange cutKeepsWrong)

/-- 'folkmootlaw06.CutApart': WHATEVER THE INPUT: true; the input reads as it did. -/
def cutApartSpec : ChangeSpec := { name := "cutApart", fn := fun _ => fun
  | [d1, d2, d3] => { results := [.lit (.bool true)], args := [d1, d2, d3] }
  | _ => none }
def cutApartRow : OpenClaim := { program := "ytkbllbphkdnmbaa", sum := "9ba10bb16549a21bafa0a04aa0642ab704f45ea0816f71df65dcab5ae0c4e3f0", func := "folkmoot/folkmootlaw06.CutApart", spec := "cutApart", inPlace := ["slices.overlaps[folkmoot/api.State]"], unfollowed := true, recurses := true, apart := false }
def CutApartSaid : Prop := cutApartRow.holds Try.pinned (OpenSpec.ofChange cutApartSpec)

/-- ITS FALSE NEIGHBOUR: 'it returns false'. Refute it at one input. -/
def cutApartWrong : ChangeSpec := { name := "cutApart", fn := fun _ => fun
  | [d1, d2, d3] => { results := [.lit (.bool false)], args := [d1, d2, d3] }
  | _ => none }
def CutApartWrongFalsely : Prop := cutApartRow.holds Try.pinned (OpenSpec.ofChange cutApartWrong)

/-- 'folkmootlaw06.CutJoins': WHATEVER THE INPUT: true; the input reads as it did. -/
def cutJoinsSpec : ChangeSpec := { name := "cutJoins", fn := fun _ => fun
  | [d] => { results := [.lit (.bool true)], args := [d] }
  | _ => none }
def cutJoinsRow : OpenClaim := { program := "ytkbllbphkdnmbaa", sum := "9ba10bb16549a21bafa0a04aa0642ab704f45ea0816f71df65dcab5ae0c4e3f0", func := "folkmoot/folkmootlaw06.CutJoins", spec := "cutJoins", inPlace := ["slices.overlaps[folkmoot/api.State]"], unfollowed := true, recurses := true, apart := false }
def CutJoinsSaid : Prop := cutJoinsRow.holds Try.pinned (OpenSpec.ofChange cutJoinsSpec)

/-- ITS FALSE NEIGHBOUR: 'it returns false'. Refute it at one input. -/
def cutJoinsWrong : ChangeSpec := { name := "cutJoins", fn := fun _ => fun
  | [d] => { results := [.lit (.bool false)], args := [d] }
  | _ => none }
def CutJoinsWrongFalsely : Prop := cutJoinsRow.holds Try.pinned (OpenSpec.ofChange cutJoinsWrong)

/- THE SECOND FORM. 'bulk': how many values and letters a reading holds, each counted each time it is reached (what is shared counts as often as it is met; a slice's spare places count too). A statement '..UptoSaid' is the law's where the arguments, and the package variables that the reading takes, are together of bulk at most 1048576: NARROWER than '..Said'. Prove '..Said' where nothing that the law and all that it calls make is longer than what came in: it says more and counts as full. Else prove '..UptoSaid'. A law counts once. -/
mutual
def uptoBulk {H : Type} : DataW H → Nat
  | .lit (.string bytes) => bytes.length + 1
  | .lit _ => 1
  | .nil => 1
  | .ptr d => uptoBulk d + 1
  | .slice elems spare => uptoBulkAll elems + uptoBulkAll spare + 1
  | .agg parts => uptoBulkAll parts + 1
  | .iface _ d => uptoBulk d + 1
  | .map entries => uptoBulkEntries entries + 1
  | .held _ => 1
def uptoBulkAll {H : Type} : List (DataW H) → Nat
  | [] => 0
  | d :: r => uptoBulk d + uptoBulkAll r
def uptoBulkEntries {H : Type} : List (Lit × DataW H) → Nat
  | [] => 0
  | x :: r => uptoBulkEntry x + uptoBulkEntries r
def uptoBulkEntry {H : Type} : Lit × DataW H → Nat
  | (.string bytes, d) => bytes.length + uptoBulk d + 1
  | (_, d) => uptoBulk d + 1
 end
def uptoSmall : (H : Type) → List (DataW H) → Bool := fun _ ds => decide (uptoBulkAll ds ≤ 1048576)
def OpenSpec.upto (s : _root_.Go.ChangeSpec) : _root_.Go.OpenSpec := { _root_.Go.OpenSpec.ofChange s with cond := some uptoSmall }

/-- 'folkmootlaw06.CutRests', WHERE WHAT IT READS IS OF BULK AT MOST 1048576: true; the input reads as it did. -/
def cutRestsUptoRow : OpenClaim := { program := "ytkbllbphkdnmbaa", sum := "9ba10bb16549a21bafa0a04aa0642ab704f45ea0816f71df65dcab5ae0c4e3f0", func := "folkmoot/folkmootlaw06.CutRests", spec := "cutRests", unfollowed := true, recurses := true, apart := false, narrowed := true }
def CutRestsUptoSaid : Prop := cutRestsUptoRow.holds Try.pinned (OpenSpec.upto cutRestsSpec)

/-- 'folkmootlaw06.CutNone', WHERE WHAT IT READS IS OF BULK AT MOST 1048576: true; the input reads as it did. -/
def cutNoneUptoRow : OpenClaim := { program := "ytkbllbphkdnmbaa", sum := "9ba10bb16549a21bafa0a04aa0642ab704f45ea0816f71df65dcab5ae0c4e3f0", func := "folkmoot/folkmootlaw06.CutNone", spec := "cutNone", unfollowed := true, recurses := true, apart := false, narrowed := true }
def CutNoneUptoSaid : Prop := cutNoneUptoRow.holds Try.pinned (OpenSpec.upto cutNoneSpec)

/-- 'folkmootlaw06.CutMeets', WHERE WHAT IT READS IS OF BULK AT MOST 1048576: true; the input reads as it did. -/
def cutMeetsUptoRow : OpenClaim := { program := "ytkbllbphkdnmbaa", sum := "9ba10bb16549a21bafa0a04aa0642ab704f45ea0816f71df65dcab5ae0c4e3f0", func := "folkmoot/folkmootlaw06.CutMeets", spec := "cutMeets", inPlace := ["slices.overlaps[folkmoot/api.State]"], unfollowed := true, recurses := true, apart := false, narrowed := true }
def CutMeetsUptoSaid : Prop := cutMeetsUptoRow.holds Try.pinned (OpenSpec.upto cutMeetsSpec)

/-- 'folkmootlaw06.CutAgain', WHERE WHAT IT READS IS OF BULK AT MOST 1048576: true; the input reads as it did. -/
def cutAgainUptoRow : OpenClaim := { program := "ytkbllbphkdnmbaa", sum := "9ba10bb16549a21bafa0a04aa0642ab704f45ea0816f71df65dcab5ae0c4e3f0", func := "folkmoot/folkmootlaw06.CutAgain", spec := "cutAgain", inPlace := ["slices.overlaps[folkmoot/api.State]"], unfollowed := true, recurses := true, apart := false, narrowed := true }
def CutAgainUptoSaid : Prop := cutAgainUptoRow.holds Try.pinned (OpenSpec.upto cutAgainSpec)

/-- 'folkmootlaw06.CutKeeps', WHERE WHAT IT READS IS OF BULK AT MOST 1048576: true; the input reads as it did. -/
def cutKeepsUptoRow : OpenClaim := { program := "ytkbllbphkdnmbaa", sum := "9ba10bb16549a21bafa0a04aa0642ab704f45ea0816f71df65dcab5ae0c4e3f0", func := "folkmoot/folkmootlaw06.CutKeeps", spec := "cutKeeps", inPlace := ["slices.overlaps[folkmoot/api.State]"], unfollowed := true, recurses := true, apart := false, narrowed := true }
def CutKeepsUptoSaid : Prop := cutKeepsUptoRow.holds Try.pinned (OpenSpec.upto cutKeepsSpec)

/-- 'folkmootlaw06.CutApart', WHERE WHAT IT READS IS OF BULK AT MOST 1048576: true; the input reads as it did. -/
def cutApartUptoRow : OpenClaim := { program := "ytkbllbphkdnmbaa", sum := "9ba10bb16549a21bafa0a04aa0642ab704f45ea0816f71df65dcab5ae0c4e3f0", func := "folkmoot/folkmootlaw06.CutApart", spec := "cutApart", inPlace := ["slices.overlaps[folkmoot/api.State]"], unfollowed := true, recurses := true, apart := false, narrowed := true }
def CutApartUptoSaid : Prop := cutApartUptoRow.holds Try.pinned (OpenSpec.upto cutApartSpec)

/-- 'folkmootlaw06.CutJoins', WHERE WHAT IT READS IS OF BULK AT MOST 1048576: true; the input reads as it did. -/
def cutJoinsUptoRow : OpenClaim := { program := "ytkbllbphkdnmbaa", sum := "9ba10bb16549a21bafa0a04aa0642ab704f45ea0816f71df65dcab5ae0c4e3f0", func := "folkmoot/folkmootlaw06.CutJoins", spec := "cutJoins", inPlace := ["slices.overlaps[folkmoot/api.State]"], unfollowed := true, recurses := true, apart := false, narrowed := true }
def CutJoinsUptoSaid : Prop := cutJoinsUptoRow.holds Try.pinned (OpenSpec.upto cutJoinsSpec)

end Rows
end Go.Proofs.Ytkbllbphkdnmbaa
