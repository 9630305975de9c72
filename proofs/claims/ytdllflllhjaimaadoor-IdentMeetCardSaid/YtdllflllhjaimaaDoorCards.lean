/-
  DERIVED. GIVEN WITH THE SEED: THE CARDS: each row of YtdllflllhjaimaaDoorRows.lean that lists a variable, with what it lists TIED to the program's text (the seventh form; the later family's looks); each row that meets fmt, with fmt's text TOLD by the authors' own Lean function (tested against real Go, not proved from fmt's source: count such statements apart). THE CARD IS WHAT COUNTS. Prove the row's statement (the work); the ties are given (YtdllflllhjaimaaDoorTie.lean); close each card by the builder's one call (the guide's Derived/Test/ToyasCard.lean, 'card_holds'). Laid BY PROGRAM, IN A SANDBOX (cutbox-door.mjs). By AI agents, Wed Nov 11 2026. No macro, syntax, notation, axiom, sorry.
-/
import Derived.Test.YtdllflllhjaimaaDoorRows
import GoSem.ClaimSeven
namespace Go.Proofs.YtdllflllhjaimaaDoor
namespace Rows

/-- THE TIED CARD OF 'folkmootlaw04.IdentMeet'. -/
def identMeetCard : Claim7 := { stood := { row := identMeetRow, standIns := [], harness := (true, "c881b3f035dd85595b7f45ddb074c14f88f8f75eb617e167a961e033ebd05333"), looks := false }, kinds := [], alts := [], laidByText := true, laidKinds := [.data], laidTests := true, laidLooks := .later }
def IdentMeetCardSaid : Prop := Claim7.holds Tryd.pinned (.plain (OpenSpec.ofChange identMeetSpec)) identMeetCard

/-- THE TIED CARD OF 'folkmootlaw04.IdentHalves'. -/
def identHalvesCard : Claim7 := { stood := { row := identHalvesRow, standIns := [], harness := (true, "c881b3f035dd85595b7f45ddb074c14f88f8f75eb617e167a961e033ebd05333"), looks := false }, kinds := [], alts := [], laidByText := true, laidKinds := [.data], laidTests := true, laidLooks := .later }
def IdentHalvesCardSaid : Prop := Claim7.holds Tryd.pinned (.plain (OpenSpec.ofChange identHalvesSpec)) identHalvesCard

/-- THE TIED CARD OF 'folkmootlaw04.IdentBuilt'. -/
def identBuiltCard : Claim7 := { stood := { row := identBuiltRow, standIns := [], harness := (true, "c881b3f035dd85595b7f45ddb074c14f88f8f75eb617e167a961e033ebd05333"), looks := false }, kinds := [], alts := [], laidByText := true, laidKinds := [.data], laidTests := true, laidLooks := .later }
def IdentBuiltCardSaid : Prop := Claim7.holds Tryd.pinned (.plain (OpenSpec.ofChange identBuiltSpec)) identBuiltCard

/-- THE TIED CARD OF 'folkmootlaw04.IdentSets'. -/
def identSetsCard : Claim7 := { stood := { row := identSetsRow, standIns := [], harness := (true, "c881b3f035dd85595b7f45ddb074c14f88f8f75eb617e167a961e033ebd05333"), looks := false }, kinds := [], alts := [], laidByText := true, laidKinds := [.data], laidTests := true, laidLooks := .later }
def IdentSetsCardSaid : Prop := Claim7.holds Tryd.pinned (.plain (OpenSpec.ofChange identSetsSpec)) identSetsCard

/-- THE TIED CARD OF 'folkmootlaw04.IdentOrder'. -/
def identOrderCard : Claim7 := { stood := { row := identOrderRow, standIns := [], harness := (true, "c881b3f035dd85595b7f45ddb074c14f88f8f75eb617e167a961e033ebd05333"), looks := false }, kinds := [], alts := [], laidByText := true, laidKinds := [.data], laidTests := true, laidLooks := .later }
def IdentOrderCardSaid : Prop := Claim7.holds Tryd.pinned (.plain (OpenSpec.ofChange identOrderSpec)) identOrderCard

/-- THE SECOND FORM's CARD OF 'folkmootlaw04.IdentMeet'. -/
def identMeetUptoCard : Claim7 := { stood := { row := identMeetUptoRow, standIns := [], harness := (true, "c881b3f035dd85595b7f45ddb074c14f88f8f75eb617e167a961e033ebd05333"), looks := false }, kinds := [], alts := [], laidByText := true, laidKinds := [.data], laidTests := true, laidLooks := .later }
def IdentMeetUptoCardSaid : Prop := Claim7.holds Tryd.pinned (.plain (OpenSpec.upto identMeetSpec)) identMeetUptoCard

/-- THE SECOND FORM's CARD OF 'folkmootlaw04.IdentHalves'. -/
def identHalvesUptoCard : Claim7 := { stood := { row := identHalvesUptoRow, standIns := [], harness := (true, "c881b3f035dd85595b7f45ddb074c14f88f8f75eb617e167a961e033ebd05333"), looks := false }, kinds := [], alts := [], laidByText := true, laidKinds := [.data], laidTests := true, laidLooks := .later }
def IdentHalvesUptoCardSaid : Prop := Claim7.holds Tryd.pinned (.plain (OpenSpec.upto identHalvesSpec)) identHalvesUptoCard

/-- THE SECOND FORM's CARD OF 'folkmootlaw04.IdentBuilt'. -/
def identBuiltUptoCard : Claim7 := { stood := { row := identBuiltUptoRow, standIns := [], harness := (true, "c881b3f035dd85595b7f45ddb074c14f88f8f75eb617e167a961e033ebd05333"), looks := false }, kinds := [], alts := [], laidByText := true, laidKinds := [.data], laidTests := true, laidLooks := .later }
def IdentBuiltUptoCardSaid : Prop := Claim7.holds Tryd.pinned (.plain (OpenSpec.upto identBuiltSpec)) identBuiltUptoCard

/-- THE SECOND FORM's CARD OF 'folkmootlaw04.IdentSets'. -/
def identSetsUptoCard : Claim7 := { stood := { row := identSetsUptoRow, standIns := [], harness := (true, "c881b3f035dd85595b7f45ddb074c14f88f8f75eb617e167a961e033ebd05333"), looks := false }, kinds := [], alts := [], laidByText := true, laidKinds := [.data], laidTests := true, laidLooks := .later }
def IdentSetsUptoCardSaid : Prop := Claim7.holds Tryd.pinned (.plain (OpenSpec.upto identSetsSpec)) identSetsUptoCard

/-- THE SECOND FORM's CARD OF 'folkmootlaw04.IdentOrder'. -/
def identOrderUptoCard : Claim7 := { stood := { row := identOrderUptoRow, standIns := [], harness := (true, "c881b3f035dd85595b7f45ddb074c14f88f8f75eb617e167a961e033ebd05333"), looks := false }, kinds := [], alts := [], laidByText := true, laidKinds := [.data], laidTests := true, laidLooks := .later }
def IdentOrderUptoCardSaid : Prop := Claim7.holds Tryd.pinned (.plain (OpenSpec.upto identOrderSpec)) identOrderUptoCard
end Rows
end Go.Proofs.YtdllflllhjaimaaDoor
