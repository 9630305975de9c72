/-
  DERIVED. GIVEN WITH THE SEED: THE CARDS: each row of YtnikcgcbkdeeeaaDoorRows.lean that lists a variable, with what it lists TIED to the program's text (the seventh form; the later family's looks); each row that meets fmt, with fmt's text TOLD by the authors' own Lean function (tested against real Go, not proved from fmt's source: count such statements apart). THE CARD IS WHAT COUNTS. Prove the row's statement (the work); the ties are given (YtnikcgcbkdeeeaaDoorTie.lean); close each card by the builder's one call (the guide's Derived/Test/ToyasCard.lean, 'card_holds'). Laid BY PROGRAM, IN A SANDBOX (cutbox-door.mjs). By AI agents, Wed Nov 11 2026. No macro, syntax, notation, axiom, sorry.
-/
import Derived.Test.YtnikcgcbkdeeeaaDoorRows
import GoSem.ClaimSeven
namespace Go.Proofs.YtnikcgcbkdeeeaaDoor
namespace Rows

/-- THE TIED CARD OF 'folkmootlaw19.JudgeTotals'. -/
def judgeTotalsCard : Claim7 := { stood := { row := judgeTotalsRow, standIns := [], harness := (true, "3fb1a59f5e0f12d127acb8c01454a5b32ea77146a6bd3a3d5f79d791d9ca69cc"), looks := false }, kinds := [], alts := [], laidByText := true, laidKinds := [.data], laidTests := true, laidLooks := .later }
def JudgeTotalsCardSaid : Prop := Claim7.holds Tryd.pinned (.plain (OpenSpec.ofChange judgeTotalsSpec)) judgeTotalsCard

/-- THE TIED CARD OF 'folkmootlaw19.JudgeMixes'. -/
def judgeMixesCard : Claim7 := { stood := { row := judgeMixesRow, standIns := [], harness := (true, "3fb1a59f5e0f12d127acb8c01454a5b32ea77146a6bd3a3d5f79d791d9ca69cc"), looks := false }, kinds := [], alts := [], laidByText := true, laidKinds := [.data], laidTests := true, laidLooks := .later }
def JudgeMixesCardSaid : Prop := Claim7.holds Tryd.pinned (.plain (OpenSpec.ofChange judgeMixesSpec)) judgeMixesCard

/-- THE TIED CARD OF 'folkmootlaw19.JudgeViews'. -/
def judgeViewsCard : Claim7 := { stood := { row := judgeViewsRow, standIns := [], harness := (true, "3fb1a59f5e0f12d127acb8c01454a5b32ea77146a6bd3a3d5f79d791d9ca69cc"), looks := false }, kinds := [], alts := [], laidByText := true, laidKinds := [.data], laidTests := true, laidLooks := .later }
def JudgeViewsCardSaid : Prop := Claim7.holds Tryd.pinned (.plain (OpenSpec.ofChange judgeViewsSpec)) judgeViewsCard

/-- THE TIED CARD OF 'folkmootlaw19.JudgeGood'. -/
def judgeGoodCard : Claim7 := { stood := { row := judgeGoodRow, standIns := [], harness := (true, "3fb1a59f5e0f12d127acb8c01454a5b32ea77146a6bd3a3d5f79d791d9ca69cc"), looks := false }, kinds := [], alts := [], laidByText := true, laidKinds := [.data], laidTests := true, laidLooks := .later }
def JudgeGoodCardSaid : Prop := Claim7.holds Tryd.pinned (.plain (OpenSpec.ofChange judgeGoodSpec)) judgeGoodCard

/-- THE TIED CARD OF 'folkmootlaw19.JudgeBad'. -/
def judgeBadCard : Claim7 := { stood := { row := judgeBadRow, standIns := [], harness := (true, "3fb1a59f5e0f12d127acb8c01454a5b32ea77146a6bd3a3d5f79d791d9ca69cc"), looks := false }, kinds := [], alts := [], laidByText := true, laidKinds := [.data], laidTests := true, laidLooks := .later }
def JudgeBadCardSaid : Prop := Claim7.holds Tryd.pinned (.plain (OpenSpec.ofChange judgeBadSpec)) judgeBadCard

/-- THE TIED CARD OF 'folkmootlaw19.JudgeParts'. -/
def judgePartsCard : Claim7 := { stood := { row := judgePartsRow, standIns := [], harness := (true, "3fb1a59f5e0f12d127acb8c01454a5b32ea77146a6bd3a3d5f79d791d9ca69cc"), looks := false }, kinds := [], alts := [], laidByText := true, laidKinds := [.data], laidTests := true, laidLooks := .later }
def JudgePartsCardSaid : Prop := Claim7.holds Tryd.pinned (.plain (OpenSpec.ofChange judgePartsSpec)) judgePartsCard

/-- THE TIED CARD OF 'folkmootlaw19.JudgeOthers'. -/
def judgeOthersCard : Claim7 := { stood := { row := judgeOthersRow, standIns := [], harness := (true, "3fb1a59f5e0f12d127acb8c01454a5b32ea77146a6bd3a3d5f79d791d9ca69cc"), looks := false }, kinds := [], alts := [], laidByText := true, laidKinds := [.data], laidTests := true, laidLooks := .later }
def JudgeOthersCardSaid : Prop := Claim7.holds Tryd.pinned (.plain (OpenSpec.ofChange judgeOthersSpec)) judgeOthersCard

/-- THE SECOND FORM's CARD OF 'folkmootlaw19.JudgeTotals'. -/
def judgeTotalsUptoCard : Claim7 := { stood := { row := judgeTotalsUptoRow, standIns := [], harness := (true, "3fb1a59f5e0f12d127acb8c01454a5b32ea77146a6bd3a3d5f79d791d9ca69cc"), looks := false }, kinds := [], alts := [], laidByText := true, laidKinds := [.data], laidTests := true, laidLooks := .later }
def JudgeTotalsUptoCardSaid : Prop := Claim7.holds Tryd.pinned (.plain (OpenSpec.upto judgeTotalsSpec)) judgeTotalsUptoCard

/-- THE SECOND FORM's CARD OF 'folkmootlaw19.JudgeMixes'. -/
def judgeMixesUptoCard : Claim7 := { stood := { row := judgeMixesUptoRow, standIns := [], harness := (true, "3fb1a59f5e0f12d127acb8c01454a5b32ea77146a6bd3a3d5f79d791d9ca69cc"), looks := false }, kinds := [], alts := [], laidByText := true, laidKinds := [.data], laidTests := true, laidLooks := .later }
def JudgeMixesUptoCardSaid : Prop := Claim7.holds Tryd.pinned (.plain (OpenSpec.upto judgeMixesSpec)) judgeMixesUptoCard

/-- THE SECOND FORM's CARD OF 'folkmootlaw19.JudgeViews'. -/
def judgeViewsUptoCard : Claim7 := { stood := { row := judgeViewsUptoRow, standIns := [], harness := (true, "3fb1a59f5e0f12d127acb8c01454a5b32ea77146a6bd3a3d5f79d791d9ca69cc"), looks := false }, kinds := [], alts := [], laidByText := true, laidKinds := [.data], laidTests := true, laidLooks := .later }
def JudgeViewsUptoCardSaid : Prop := Claim7.holds Tryd.pinned (.plain (OpenSpec.upto judgeViewsSpec)) judgeViewsUptoCard

/-- THE SECOND FORM's CARD OF 'folkmootlaw19.JudgeGood'. -/
def judgeGoodUptoCard : Claim7 := { stood := { row := judgeGoodUptoRow, standIns := [], harness := (true, "3fb1a59f5e0f12d127acb8c01454a5b32ea77146a6bd3a3d5f79d791d9ca69cc"), looks := false }, kinds := [], alts := [], laidByText := true, laidKinds := [.data], laidTests := true, laidLooks := .later }
def JudgeGoodUptoCardSaid : Prop := Claim7.holds Tryd.pinned (.plain (OpenSpec.upto judgeGoodSpec)) judgeGoodUptoCard

/-- THE SECOND FORM's CARD OF 'folkmootlaw19.JudgeBad'. -/
def judgeBadUptoCard : Claim7 := { stood := { row := judgeBadUptoRow, standIns := [], harness := (true, "3fb1a59f5e0f12d127acb8c01454a5b32ea77146a6bd3a3d5f79d791d9ca69cc"), looks := false }, kinds := [], alts := [], laidByText := true, laidKinds := [.data], laidTests := true, laidLooks := .later }
def JudgeBadUptoCardSaid : Prop := Claim7.holds Tryd.pinned (.plain (OpenSpec.upto judgeBadSpec)) judgeBadUptoCard

/-- THE SECOND FORM's CARD OF 'folkmootlaw19.JudgeParts'. -/
def judgePartsUptoCard : Claim7 := { stood := { row := judgePartsUptoRow, standIns := [], harness := (true, "3fb1a59f5e0f12d127acb8c01454a5b32ea77146a6bd3a3d5f79d791d9ca69cc"), looks := false }, kinds := [], alts := [], laidByText := true, laidKinds := [.data], laidTests := true, laidLooks := .later }
def JudgePartsUptoCardSaid : Prop := Claim7.holds Tryd.pinned (.plain (OpenSpec.upto judgePartsSpec)) judgePartsUptoCard

/-- THE SECOND FORM's CARD OF 'folkmootlaw19.JudgeOthers'. -/
def judgeOthersUptoCard : Claim7 := { stood := { row := judgeOthersUptoRow, standIns := [], harness := (true, "3fb1a59f5e0f12d127acb8c01454a5b32ea77146a6bd3a3d5f79d791d9ca69cc"), looks := false }, kinds := [], alts := [], laidByText := true, laidKinds := [.data], laidTests := true, laidLooks := .later }
def JudgeOthersUptoCardSaid : Prop := Claim7.holds Tryd.pinned (.plain (OpenSpec.upto judgeOthersSpec)) judgeOthersUptoCard
end Rows
end Go.Proofs.YtnikcgcbkdeeeaaDoor
