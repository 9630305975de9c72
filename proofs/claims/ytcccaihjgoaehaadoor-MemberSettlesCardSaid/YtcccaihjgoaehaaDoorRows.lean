/-
  NARROWER THAN 'FOR EVERY INPUT', by the rows' own cells (each row's printed sentence says how): MemberAlone: laid · MemberRefuses: laid · MemberViews: laid · MemberAccepts: laid · MemberSettles: laid · MemberNil: laid · MemberStrangers: laid.
  DERIVED. THE GIVEN ROWS OF THIS SEAT. 7 by the template 'for every input the law returns true; each argument reads behind the call as it read before'; 0 by the template 'total and deterministic' (their statements: YtcccaihjgoaehaaDoorTotals.lean).
  GIVEN WITH THE SEED: the statements are not yours to turn. If you find one false, say at which input.
  Laid BY PROGRAM, IN A SANDBOX (cutbox-rows.mjs): the forced cells as the released guide's own fill.sh prints them over the translation c926b1d377219b33… (all of the seat's roots in one cut). By AI agents, Wed Nov 11 2026. No macro, syntax, notation, axiom, sorry.
-/
import Derived.Test.YtcccaihjgoaehaaDoorChecked
import GoSem.Claim
import GoSem.ClaimJoined
import GoSem.ClaimMapViews
import Derived.JoinedTies
import Derived.KernelRfl
namespace Go.Proofs.YtcccaihjgoaehaaDoor
/- THE CELL 'sum', in the pinned program and in every row, IS THE sha256 OF THE DUMP (.gsa) THAT YtcccaihjgoaehaaDoorProg.lean LOADS. Nothing in Lean hashes anything: it is a label: what it is worth is what the hold of that sum in a sandbox is worth. -/
noncomputable def Tryd.pinned : Pinned := { name := "ytcccaihjgoaehaadoor", sum := "c926b1d377219b335c0160fef866cec83640f2ee97b9a67f50e28ef961469428", checked := Tryd.checked }
namespace Rows
def none {H : Type} : Left H := { results := [], args := [] }

/- WHAT THE LISTED PACKAGE-LEVEL VARIABLES READ AS WHEN THE CALL BEGINS. Each datum BY PROGRAM (the guide's laid-datum.mjs) off the statement by which the dump's own 'gosem.cut.vars' lays the variable. In a bare row this is a premise. The card (YtcccaihjgoaehaaDoorCards.lean) ties it to the program's text. -/
def laid_math_bits_deBruijn32tab {H : Type} : DataW H := .agg [.lit (.int .u8 0), .lit (.int .u8 1), .lit (.int .u8 28), .lit (.int .u8 2), .lit (.int .u8 29), .lit (.int .u8 14), .lit (.int .u8 24), .lit (.int .u8 3), .lit (.int .u8 30), .lit (.int .u8 22), .lit (.int .u8 20), .lit (.int .u8 15), .lit (.int .u8 25), .lit (.int .u8 17), .lit (.int .u8 4), .lit (.int .u8 8), .lit (.int .u8 31), .lit (.int .u8 27), .lit (.int .u8 13), .lit (.int .u8 23), .lit (.int .u8 21), .lit (.int .u8 19), .lit (.int .u8 16), .lit (.int .u8 7), .lit (.int .u8 26), .lit (.int .u8 12), .lit (.int .u8 18), .lit (.int .u8 6), .lit (.int .u8 11), .lit (.int .u8 5), .lit (.int .u8 10), .lit (.int .u8 9)]

/-- 'folkmootlaw13.MemberAlone': WHATEVER THE INPUT: true; the input reads as it did. -/
def memberAloneSpec : ChangeSpec := { name := "memberAlone", fn := fun _ => fun
  | [d1, d2, d3] => { results := [.lit (.bool true)], args := [d1, d2, d3] }
  | _ => none }
def memberAloneRow : OpenClaim := { program := "ytcccaihjgoaehaadoor", sum := "c926b1d377219b335c0160fef866cec83640f2ee97b9a67f50e28ef961469428", func := "folkmoot/folkmootlaw13.MemberAlone", spec := "memberAlone", inPlace := ["slices.overlaps[folkmoot/api.State]"], unfollowed := true, recurses := true, named := ["math/bits.deBruijn32tab"], apart := false, laid := [("math/bits.deBruijn32tab", laid_math_bits_deBruijn32tab)] }
def MemberAloneSaid : Prop := memberAloneRow.holds Tryd.pinned (OpenSpec.ofChange memberAloneSpec)

/-- ITS FALSE NEIGHBOUR: 'it returns false'. Refute it at one input. -/
def memberAloneWrong : ChangeSpec := { name := "memberAlone", fn := fun _ => fun
  | [d1, d2, d3] => { results := [.lit (.bool false)], args := [d1, d2, d3] }
  | _ => none }
def MemberAloneWrongFalsely : Prop := memberAloneRow.holds Tryd.pinned (OpenSpec.ofChange memberAloneWrong)

/-- 'folkmootlaw13.MemberRefuses': WHATEVER THE INPUT: true; the input reads as it did. -/
def memberRefusesSpec : ChangeSpec := { name := "memberRefuses", fn := fun _ => fun
  | [d1, d2, d3] => { results := [.lit (.bool true)], args := [d1, d2, d3] }
  | _ => none }
def memberRefusesRow : OpenClaim := { program := "ytcccaihjgoaehaadoor", sum := "c926b1d377219b335c0160fef866cec83640f2ee97b9a67f50e28ef961469428", func := "folkmoot/folkmootlaw13.MemberRefuses", spec := "memberRefuses", inPlace := ["slices.overlaps[folkmoot/api.State]"], unfollowed := true, recurses := true, named := ["math/bits.deBruijn32tab"], apart := false, laid := [("math/bits.deBruijn32tab", laid_math_bits_deBruijn32tab)] }
def MemberRefusesSaid : Prop := memberRefusesRow.holds Tryd.pinned (OpenSpec.ofChange memberRefusesSpec)

/-- ITS FALSE NEIGHBOUR: 'it returns false'. Refute it at one input. -/
def memberRefusesWrong : ChangeSpec := { name := "memberRefuses", fn := fun _ => fun
  | [d1, d2, d3] => { results := [.lit (.bool false)], args := [d1, d2, d3] }
  | _ => none }
def MemberRefusesWrongFalsely : Prop := memberRefusesRow.holds Tryd.pinned (OpenSpec.ofChange memberRefusesWrong)

/-- 'folkmootlaw13.MemberViews': WHATEVER THE INPUT: true; the input reads as it did. -/
def memberViewsSpec : ChangeSpec := { name := "memberViews", fn := fun _ => fun
  | [d1, d2] => { results := [.lit (.bool true)], args := [d1, d2] }
  | _ => none }
def memberViewsRow : OpenClaim := { program := "ytcccaihjgoaehaadoor", sum := "c926b1d377219b335c0160fef866cec83640f2ee97b9a67f50e28ef961469428", func := "folkmoot/folkmootlaw13.MemberViews", spec := "memberViews", inPlace := ["slices.overlaps[folkmoot/api.State]"], unfollowed := true, recurses := true, named := ["math/bits.deBruijn32tab"], apart := false, laid := [("math/bits.deBruijn32tab", laid_math_bits_deBruijn32tab)] }
def MemberViewsSaid : Prop := memberViewsRow.holds Tryd.pinned (OpenSpec.ofChange memberViewsSpec)

/-- ITS FALSE NEIGHBOUR: 'it returns false'. Refute it at one input. -/
def memberViewsWrong : ChangeSpec := { name := "memberViews", fn := fun _ => fun
  | [d1, d2] => { results := [.lit (.bool false)], args := [d1, d2] }
  | _ => none }
def MemberViewsWrongFalsely : Prop := memberViewsRow.holds Tryd.pinned (OpenSpec.ofChange memberViewsWrong)

/-- 'folkmootlaw13.MemberAccepts': WHATEVER THE INPUT: true; the input reads as it did. -/
def memberAcceptsSpec : ChangeSpec := { name := "memberAccepts", fn := fun _ => fun
  | [d1, d2] => { results := [.lit (.bool true)], args := [d1, d2] }
  | _ => none }
def memberAcceptsRow : OpenClaim := { program := "ytcccaihjgoaehaadoor", sum := "c926b1d377219b335c0160fef866cec83640f2ee97b9a67f50e28ef961469428", func := "folkmoot/folkmootlaw13.MemberAccepts", spec := "memberAccepts", inPlace := ["slices.overlaps[folkmoot/api.State]"], unfollowed := true, recurses := true, named := ["math/bits.deBruijn32tab"], apart := false, laid := [("math/bits.deBruijn32tab", laid_math_bits_deBruijn32tab)] }
def MemberAcceptsSaid : Prop := memberAcceptsRow.holds Tryd.pinned (OpenSpec.ofChange memberAcceptsSpec)

/-- ITS FALSE NEIGHBOUR: 'it returns false'. Refute it at one input. -/
def memberAcceptsWrong : ChangeSpec := { name := "memberAccepts", fn := fun _ => fun
  | [d1, d2] => { results := [.lit (.bool false)], args := [d1, d2] }
  | _ => none }
def MemberAcceptsWrongFalsely : Prop := memberAcceptsRow.holds Tryd.pinned (OpenSpec.ofChange memberAcceptsWrong)

/-- 'folkmootlaw13.MemberSettles': WHATEVER THE INPUT: true; the input reads as it did. -/
def memberSettlesSpec : ChangeSpec := { name := "memberSettles", fn := fun _ => fun
  | [d1, d2] => { results := [.lit (.bool true)], args := [d1, d2] }
  | _ => none }
def memberSettlesRow : OpenClaim := { program := "ytcccaihjgoaehaadoor", sum := "c926b1d377219b335c0160fef866cec83640f2ee97b9a67f50e28ef961469428", func := "folkmoot/folkmootlaw13.MemberSettles", spec := "memberSettles", inPlace := ["slices.overlaps[folkmoot/api.State]"], unfollowed := true, recurses := true, named := ["math/bits.deBruijn32tab"], apart := false, laid := [("math/bits.deBruijn32tab", laid_math_bits_deBruijn32tab)] }
def MemberSettlesSaid : Prop := memberSettlesRow.holds Tryd.pinned (OpenSpec.ofChange memberSettlesSpec)

/-- ITS FALSE NEIGHBOUR: 'it returns false'. Refute it at one input. -/
def memberSettlesWrong : ChangeSpec := { name := "memberSettles", fn := fun _ => fun
  | [d1, d2] => { results := [.lit (.bool false)], args := [d1, d2] }
  | _ => none }
def MemberSettlesWrongFalsely : Prop := memberSettlesRow.holds Tryd.pinned (OpenSpec.ofChange memberSettlesWrong)

/-- 'folkmootlaw13.MemberNil': WHATEVER THE INPUT: true; the input reads as it did. -/
def memberNilSpec : ChangeSpec := { name := "memberNil", fn := fun _ => fun
  | [d1, d2] => { results := [.lit (.bool true)], args := [d1, d2] }
  | _ => none }
def memberNilRow : OpenClaim := { program := "ytcccaihjgoaehaadoor", sum := "c926b1d377219b335c0160fef866cec83640f2ee97b9a67f50e28ef961469428", func := "folkmoot/folkmootlaw13.MemberNil", spec := "memberNil", inPlace := ["slices.overlaps[folkmoot/api.State]"], unfollowed := true, recurses := true, named := ["math/bits.deBruijn32tab"], apart := false, laid := [("math/bits.deBruijn32tab", laid_math_bits_deBruijn32tab)] }
def MemberNilSaid : Prop := memberNilRow.holds Tryd.pinned (OpenSpec.ofChange memberNilSpec)

/-- ITS FALSE NEIGHBOUR: 'it returns false'. Refute it at one input. -/
def memberNilWrong : ChangeSpec := { name := "memberNil", fn := fun _ => fun
  | [d1, d2] => { results := [.lit (.bool false)], args := [d1, d2] }
  | _ => none }
def MemberNilWrongFalsely : Prop := memberNilRow.holds Tryd.pinned (OpenSpec.ofChange memberNilWrong)

/-- 'folkmootlaw13.MemberStrangers': WHATEVER THE INPUT: true; the input reads as it did. -/
def memberStrangersSpec : ChangeSpec := { name := "memberStrangers", fn := fun _ => fun
  | [d1, d2, d3] => { results := [.lit (.bool true)], args := [d1, d2, d3] }
  | _ => none }
def memberStrangersRow : OpenClaim := { program := "ytcccaihjgoaehaadoor", sum := "c926b1d377219b335c0160fef866cec83640f2ee97b9a67f50e28ef961469428", func := "folkmoot/folkmootlaw13.MemberStrangers", spec := "memberStrangers", inPlace := ["slices.overlaps[folkmoot/api.State]"], unfollowed := true, recurses := true, named := ["math/bits.deBruijn32tab"], apart := false, laid := [("math/bits.deBruijn32tab", laid_math_bits_deBruijn32tab)] }
def MemberStrangersSaid : Prop := memberStrangersRow.holds Tryd.pinned (OpenSpec.ofChange memberStrangersSpec)

/-- ITS FALSE NEIGHBOUR: 'it returns false'. Refute it at one input. -/
def memberStrangersWrong : ChangeSpec := { name := "memberStrangers", fn := fun _ => fun
  | [d1, d2, d3] => { results := [.lit (.bool false)], args := [d1, d2, d3] }
  | _ => none }
def MemberStrangersWrongFalsely : Prop := memberStrangersRow.holds Tryd.pinned (OpenSpec.ofChange memberStrangersWrong)

/- THE SECOND FORM. 'bulk': how many values and letters a reading holds, each counted each time it is reached (what is shared counts as often as it is met; a slice's spare places count too). A statement '..UptoSaid' is the law's where the arguments, and the package variables that the reading takes, are together of bulk at most 1048576: NARROWER than '..Said'. Prove '..Said' where nothing that the law and all that it calls make is longer than what came in: it says more and counts as full. Else prove '..UptoSaid'. A law counts once. -/
mutual
def uptoBulk {H : Type} : DataW H → Nat
  | .lit (.string bytes) => bytes.length + 1
  | .lit _ => 1
  | .nil => 1
  | .ptr d => uptoBulk d + 1
  | .slice elems spare => uptoBulkAll elems + uptoBulkAll spare + 1
  | .agg parts => uptoBulkAll parts + 1
  | .iface _ d => uptoBulk d + 1
  | .map entries => uptoBulkEntries entries + 1
  | .held _ => 1
def uptoBulkAll {H : Type} : List (DataW H) → Nat
  | [] => 0
  | d :: r => uptoBulk d + uptoBulkAll r
def uptoBulkEntries {H : Type} : List (Lit × DataW H) → Nat
  | [] => 0
  | x :: r => uptoBulkEntry x + uptoBulkEntries r
def uptoBulkEntry {H : Type} : Lit × DataW H → Nat
  | (.string bytes, d) => bytes.length + uptoBulk d + 1
  | (_, d) => uptoBulk d + 1
 end
def uptoSmall : (H : Type) → List (DataW H) → Bool := fun _ ds => decide (uptoBulkAll ds ≤ 1048576)
def OpenSpec.upto (s : _root_.Go.ChangeSpec) : _root_.Go.OpenSpec := { _root_.Go.OpenSpec.ofChange s with cond := some uptoSmall }

/-- 'folkmootlaw13.MemberAlone', WHERE WHAT IT READS IS OF BULK AT MOST 1048576: true; the input reads as it did. -/
def memberAloneUptoRow : OpenClaim := { program := "ytcccaihjgoaehaadoor", sum := "c926b1d377219b335c0160fef866cec83640f2ee97b9a67f50e28ef961469428", func := "folkmoot/folkmootlaw13.MemberAlone", spec := "memberAlone", inPlace := ["slices.overlaps[folkmoot/api.State]"], unfollowed := true, recurses := true, named := ["math/bits.deBruijn32tab"], apart := false, laid := [("math/bits.deBruijn32tab", laid_math_bits_deBruijn32tab)], narrowed := true }
def MemberAloneUptoSaid : Prop := memberAloneUptoRow.holds Tryd.pinned (OpenSpec.upto memberAloneSpec)

/-- 'folkmootlaw13.MemberRefuses', WHERE WHAT IT READS IS OF BULK AT MOST 1048576: true; the input reads as it did. -/
def memberRefusesUptoRow : OpenClaim := { program := "ytcccaihjgoaehaadoor", sum := "c926b1d377219b335c0160fef866cec83640f2ee97b9a67f50e28ef961469428", func := "folkmoot/folkmootlaw13.MemberRefuses", spec := "memberRefuses", inPlace := ["slices.overlaps[folkmoot/api.State]"], unfollowed := true, recurses := true, named := ["math/bits.deBruijn32tab"], apart := false, laid := [("math/bits.deBruijn32tab", laid_math_bits_deBruijn32tab)], narrowed := true }
def MemberRefusesUptoSaid : Prop := memberRefusesUptoRow.holds Tryd.pinned (OpenSpec.upto memberRefusesSpec)

/-- 'folkmootlaw13.MemberViews', WHERE WHAT IT READS IS OF BULK AT MOST 1048576: true; the input reads as it did. -/
def memberViewsUptoRow : OpenClaim := { program := "ytcccaihjgoaehaadoor", sum := "c926b1d377219b335c0160fef866cec83640f2ee97b9a67f50e28ef961469428", func := "folkmoot/folkmootlaw13.MemberViews", spec := "memberViews", inPlace := ["slices.overlaps[folkmoot/api.State]"], unfollowed := true, recurses := true, named := ["math/bits.deBruijn32tab"], apart := false, laid := [("math/bits.deBruijn32tab", laid_math_bits_deBruijn32tab)], narrowed := true }
def MemberViewsUptoSaid : Prop := memberViewsUptoRow.holds Tryd.pinned (OpenSpec.upto memberViewsSpec)

/-- 'folkmootlaw13.MemberAccepts', WHERE WHAT IT READS IS OF BULK AT MOST 1048576: true; the input reads as it did. -/
def memberAcceptsUptoRow : OpenClaim := { program := "ytcccaihjgoaehaadoor", sum := "c926b1d377219b335c0160fef866cec83640f2ee97b9a67f50e28ef961469428", func := "folkmoot/folkmootlaw13.MemberAccepts", spec := "memberAccepts", inPlace := ["slices.overlaps[folkmoot/api.State]"], unfollowed := true, recurses := true, named := ["math/bits.deBruijn32tab"], apart := false, laid := [("math/bits.deBruijn32tab", laid_math_bits_deBruijn32tab)], narrowed := true }
def MemberAcceptsUptoSaid : Prop := memberAcceptsUptoRow.holds Tryd.pinned (OpenSpec.upto memberAcceptsSpec)

/-- 'folkmootlaw13.MemberSettles', WHERE WHAT IT READS IS OF BULK AT MOST 1048576: true; the input reads as it did. -/
def memberSettlesUptoRow : OpenClaim := { program := "ytcccaihjgoaehaadoor", sum := "c926b1d377219b335c0160fef866cec83640f2ee97b9a67f50e28ef961469428", func := "folkmoot/folkmootlaw13.MemberSettles", spec := "memberSettles", inPlace := ["slices.overlaps[folkmoot/api.State]"], unfollowed := true, recurses := true, named := ["math/bits.deBruijn32tab"], apart := false, laid := [("math/bits.deBruijn32tab", laid_math_bits_deBruijn32tab)], narrowed := true }
def MemberSettlesUptoSaid : Prop := memberSettlesUptoRow.holds Tryd.pinned (OpenSpec.upto memberSettlesSpec)

/-- 'folkmootlaw13.MemberNil', WHERE WHAT IT READS IS OF BULK AT MOST 1048576: true; the input reads as it did. -/
def memberNilUptoRow : OpenClaim := { program := "ytcccaihjgoaehaadoor", sum := "c926b1d377219b335c0160fef866cec83640f2ee97b9a67f50e28ef961469428", func := "folkmoot/folkmootlaw13.MemberNil", spec := "memberNil", inPlace := ["slices.overlaps[folkmoot/api.State]"], unfollowed := true, recurses := true, named := ["math/bits.deBruijn32tab"], apart := false, laid := [("math/bits.deBruijn32tab", laid_math_bits_deBruijn32tab)], narrowed := true }
def MemberNilUptoSaid : Prop := memberNilUptoRow.holds Tryd.pinned (OpenSpec.upto memberNilSpec)

/-- 'folkmootlaw13.MemberStrangers', WHERE WHAT IT READS IS OF BULK AT MOST 1048576: true; the input reads as it did. -/
def memberStrangersUptoRow : OpenClaim := { program := "ytcccaihjgoaehaadoor", sum := "c926b1d377219b335c0160fef866cec83640f2ee97b9a67f50e28ef961469428", func := "folkmoot/folkmootlaw13.MemberStrangers", spec := "memberStrangers", inPlace := ["slices.overlaps[folkmoot/api.State]"], unfollowed := true, recurses := true, named := ["math/bits.deBruijn32tab"], apart := false, laid := [("math/bits.deBruijn32tab", laid_math_bits_deBruijn32tab)], narrowed := true }
def MemberStrangersUptoSaid : Prop := memberStrangersUptoRow.holds Tryd.pinned (OpenSpec.upto memberStrangersSpec)

end Rows
end Go.Proofs.YtcccaihjgoaehaaDoor
