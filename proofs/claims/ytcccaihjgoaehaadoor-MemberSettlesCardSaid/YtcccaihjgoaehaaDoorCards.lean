/-
  DERIVED. GIVEN WITH THE SEED: THE CARDS: each row of YtcccaihjgoaehaaDoorRows.lean that lists a variable, with what it lists TIED to the program's text (the seventh form; the later family's looks); each row that meets fmt, with fmt's text TOLD by the authors' own Lean function (tested against real Go, not proved from fmt's source: count such statements apart). THE CARD IS WHAT COUNTS. Prove the row's statement (the work); the ties are given (YtcccaihjgoaehaaDoorTie.lean); close each card by the builder's one call (the guide's Derived/Test/ToyasCard.lean, 'card_holds'). Laid BY PROGRAM, IN A SANDBOX (cutbox-door.mjs). By AI agents, Wed Nov 11 2026. No macro, syntax, notation, axiom, sorry.
-/
import Derived.Test.YtcccaihjgoaehaaDoorRows
import GoSem.ClaimSeven
namespace Go.Proofs.YtcccaihjgoaehaaDoor
namespace Rows

/-- THE TIED CARD OF 'folkmootlaw13.MemberAlone'. -/
def memberAloneCard : Claim7 := { stood := { row := memberAloneRow, standIns := [], harness := (true, "c81093bc458e289526391ec6331f476d47f55634b262fbf1f113b4eeb18b5051"), looks := false }, kinds := [], alts := [], laidByText := true, laidKinds := [.data], laidTests := true, laidLooks := .later }
def MemberAloneCardSaid : Prop := Claim7.holds Tryd.pinned (.plain (OpenSpec.ofChange memberAloneSpec)) memberAloneCard

/-- THE TIED CARD OF 'folkmootlaw13.MemberRefuses'. -/
def memberRefusesCard : Claim7 := { stood := { row := memberRefusesRow, standIns := [], harness := (true, "c81093bc458e289526391ec6331f476d47f55634b262fbf1f113b4eeb18b5051"), looks := false }, kinds := [], alts := [], laidByText := true, laidKinds := [.data], laidTests := true, laidLooks := .later }
def MemberRefusesCardSaid : Prop := Claim7.holds Tryd.pinned (.plain (OpenSpec.ofChange memberRefusesSpec)) memberRefusesCard

/-- THE TIED CARD OF 'folkmootlaw13.MemberViews'. -/
def memberViewsCard : Claim7 := { stood := { row := memberViewsRow, standIns := [], harness := (true, "c81093bc458e289526391ec6331f476d47f55634b262fbf1f113b4eeb18b5051"), looks := false }, kinds := [], alts := [], laidByText := true, laidKinds := [.data], laidTests := true, laidLooks := .later }
def MemberViewsCardSaid : Prop := Claim7.holds Tryd.pinned (.plain (OpenSpec.ofChange memberViewsSpec)) memberViewsCard

/-- THE TIED CARD OF 'folkmootlaw13.MemberAccepts'. -/
def memberAcceptsCard : Claim7 := { stood := { row := memberAcceptsRow, standIns := [], harness := (true, "c81093bc458e289526391ec6331f476d47f55634b262fbf1f113b4eeb18b5051"), looks := false }, kinds := [], alts := [], laidByText := true, laidKinds := [.data], laidTests := true, laidLooks := .later }
def MemberAcceptsCardSaid : Prop := Claim7.holds Tryd.pinned (.plain (OpenSpec.ofChange memberAcceptsSpec)) memberAcceptsCard

/-- THE TIED CARD OF 'folkmootlaw13.MemberSettles'. -/
def memberSettlesCard : Claim7 := { stood := { row := memberSettlesRow, standIns := [], harness := (true, "c81093bc458e289526391ec6331f476d47f55634b262fbf1f113b4eeb18b5051"), looks := false }, kinds := [], alts := [], laidByText := true, laidKinds := [.data], laidTests := true, laidLooks := .later }
def MemberSettlesCardSaid : Prop := Claim7.holds Tryd.pinned (.plain (OpenSpec.ofChange memberSettlesSpec)) memberSettlesCard

/-- THE TIED CARD OF 'folkmootlaw13.MemberNil'. -/
def memberNilCard : Claim7 := { stood := { row := memberNilRow, standIns := [], harness := (true, "c81093bc458e289526391ec6331f476d47f55634b262fbf1f113b4eeb18b5051"), looks := false }, kinds := [], alts := [], laidByText := true, laidKinds := [.data], laidTests := true, laidLooks := .later }
def MemberNilCardSaid : Prop := Claim7.holds Tryd.pinned (.plain (OpenSpec.ofChange memberNilSpec)) memberNilCard

/-- THE TIED CARD OF 'folkmootlaw13.MemberStrangers'. -/
def memberStrangersCard : Claim7 := { stood := { row := memberStrangersRow, standIns := [], harness := (true, "c81093bc458e289526391ec6331f476d47f55634b262fbf1f113b4eeb18b5051"), looks := false }, kinds := [], alts := [], laidByText := true, laidKinds := [.data], laidTests := true, laidLooks := .later }
def MemberStrangersCardSaid : Prop := Claim7.holds Tryd.pinned (.plain (OpenSpec.ofChange memberStrangersSpec)) memberStrangersCard

/-- THE SECOND FORM's CARD OF 'folkmootlaw13.MemberAlone'. -/
def memberAloneUptoCard : Claim7 := { stood := { row := memberAloneUptoRow, standIns := [], harness := (true, "c81093bc458e289526391ec6331f476d47f55634b262fbf1f113b4eeb18b5051"), looks := false }, kinds := [], alts := [], laidByText := true, laidKinds := [.data], laidTests := true, laidLooks := .later }
def MemberAloneUptoCardSaid : Prop := Claim7.holds Tryd.pinned (.plain (OpenSpec.upto memberAloneSpec)) memberAloneUptoCard

/-- THE SECOND FORM's CARD OF 'folkmootlaw13.MemberRefuses'. -/
def memberRefusesUptoCard : Claim7 := { stood := { row := memberRefusesUptoRow, standIns := [], harness := (true, "c81093bc458e289526391ec6331f476d47f55634b262fbf1f113b4eeb18b5051"), looks := false }, kinds := [], alts := [], laidByText := true, laidKinds := [.data], laidTests := true, laidLooks := .later }
def MemberRefusesUptoCardSaid : Prop := Claim7.holds Tryd.pinned (.plain (OpenSpec.upto memberRefusesSpec)) memberRefusesUptoCard

/-- THE SECOND FORM's CARD OF 'folkmootlaw13.MemberViews'. -/
def memberViewsUptoCard : Claim7 := { stood := { row := memberViewsUptoRow, standIns := [], harness := (true, "c81093bc458e289526391ec6331f476d47f55634b262fbf1f113b4eeb18b5051"), looks := false }, kinds := [], alts := [], laidByText := true, laidKinds := [.data], laidTests := true, laidLooks := .later }
def MemberViewsUptoCardSaid : Prop := Claim7.holds Tryd.pinned (.plain (OpenSpec.upto memberViewsSpec)) memberViewsUptoCard

/-- THE SECOND FORM's CARD OF 'folkmootlaw13.MemberAccepts'. -/
def memberAcceptsUptoCard : Claim7 := { stood := { row := memberAcceptsUptoRow, standIns := [], harness := (true, "c81093bc458e289526391ec6331f476d47f55634b262fbf1f113b4eeb18b5051"), looks := false }, kinds := [], alts := [], laidByText := true, laidKinds := [.data], laidTests := true, laidLooks := .later }
def MemberAcceptsUptoCardSaid : Prop := Claim7.holds Tryd.pinned (.plain (OpenSpec.upto memberAcceptsSpec)) memberAcceptsUptoCard

/-- THE SECOND FORM's CARD OF 'folkmootlaw13.MemberSettles'. -/
def memberSettlesUptoCard : Claim7 := { stood := { row := memberSettlesUptoRow, standIns := [], harness := (true, "c81093bc458e289526391ec6331f476d47f55634b262fbf1f113b4eeb18b5051"), looks := false }, kinds := [], alts := [], laidByText := true, laidKinds := [.data], laidTests := true, laidLooks := .later }
def MemberSettlesUptoCardSaid : Prop := Claim7.holds Tryd.pinned (.plain (OpenSpec.upto memberSettlesSpec)) memberSettlesUptoCard

/-- THE SECOND FORM's CARD OF 'folkmootlaw13.MemberNil'. -/
def memberNilUptoCard : Claim7 := { stood := { row := memberNilUptoRow, standIns := [], harness := (true, "c81093bc458e289526391ec6331f476d47f55634b262fbf1f113b4eeb18b5051"), looks := false }, kinds := [], alts := [], laidByText := true, laidKinds := [.data], laidTests := true, laidLooks := .later }
def MemberNilUptoCardSaid : Prop := Claim7.holds Tryd.pinned (.plain (OpenSpec.upto memberNilSpec)) memberNilUptoCard

/-- THE SECOND FORM's CARD OF 'folkmootlaw13.MemberStrangers'. -/
def memberStrangersUptoCard : Claim7 := { stood := { row := memberStrangersUptoRow, standIns := [], harness := (true, "c81093bc458e289526391ec6331f476d47f55634b262fbf1f113b4eeb18b5051"), looks := false }, kinds := [], alts := [], laidByText := true, laidKinds := [.data], laidTests := true, laidLooks := .later }
def MemberStrangersUptoCardSaid : Prop := Claim7.holds Tryd.pinned (.plain (OpenSpec.upto memberStrangersSpec)) memberStrangersUptoCard
end Rows
end Go.Proofs.YtcccaihjgoaehaaDoor
