/-
  DERIVED. GIVEN WITH THE SEED: THE CARDS: each row of YtojlmilkdijiaaaDoorRows.lean that lists a variable, with what it lists TIED to the program's text (the seventh form; the later family's looks); each row that meets fmt, with fmt's text TOLD by the authors' own Lean function (tested against real Go, not proved from fmt's source: count such statements apart). THE CARD IS WHAT COUNTS. Prove the row's statement (the work); the ties are given (YtojlmilkdijiaaaDoorTie.lean); close each card by the builder's one call (the guide's Derived/Test/ToyasCard.lean, 'card_holds'). Laid BY PROGRAM, IN A SANDBOX (cutbox-door.mjs). By AI agents, Wed Nov 11 2026. No macro, syntax, notation, axiom, sorry.
-/
import Derived.Test.YtojlmilkdijiaaaDoorRows
import GoSem.ClaimSeven
namespace Go.Proofs.YtojlmilkdijiaaaDoor
namespace Rows

/-- THE TIED CARD OF 'folkmootlaw08.NetClasses'. -/
def netClassesCard : Claim7 := { stood := { row := netClassesRow, standIns := [], harness := (true, "c9ceef9db859815cad1b801b1d7fca5839cd872f46d2935ba3ac644c77c5de30"), looks := false }, kinds := [], alts := [], laidByText := true, laidKinds := [.data], laidTests := true, laidLooks := .later }
def NetClassesCardSaid : Prop := Claim7.holds Tryd.pinned (.plain (OpenSpec.ofChange netClassesSpec)) netClassesCard

/-- THE TIED CARD OF 'folkmootlaw08.NetTurns'. -/
def netTurnsCard : Claim7 := { stood := { row := netTurnsRow, standIns := [], harness := (true, "c9ceef9db859815cad1b801b1d7fca5839cd872f46d2935ba3ac644c77c5de30"), looks := false }, kinds := [], alts := [], laidByText := true, laidKinds := [.data], laidTests := true, laidLooks := .later }
def NetTurnsCardSaid : Prop := Claim7.holds Tryd.pinned (.plain (OpenSpec.ofChange netTurnsSpec)) netTurnsCard

/-- THE TIED CARD OF 'folkmootlaw08.NetOrder'. -/
def netOrderCard : Claim7 := { stood := { row := netOrderRow, standIns := [], harness := (true, "c9ceef9db859815cad1b801b1d7fca5839cd872f46d2935ba3ac644c77c5de30"), looks := false }, kinds := [], alts := [], laidByText := true, laidKinds := [.data], laidTests := true, laidLooks := .later }
def NetOrderCardSaid : Prop := Claim7.holds Tryd.pinned (.plain (OpenSpec.ofChange netOrderSpec)) netOrderCard

/-- THE TIED CARD OF 'folkmootlaw08.NetFull'. -/
def netFullCard : Claim7 := { stood := { row := netFullRow, standIns := [], harness := (true, "c9ceef9db859815cad1b801b1d7fca5839cd872f46d2935ba3ac644c77c5de30"), looks := false }, kinds := [], alts := [], laidByText := true, laidKinds := [.data], laidTests := true, laidLooks := .later }
def NetFullCardSaid : Prop := Claim7.holds Tryd.pinned (.plain (OpenSpec.ofChange netFullSpec)) netFullCard

/-- THE TIED CARD OF 'folkmootlaw08.NetCuts'. -/
def netCutsCard : Claim7 := { stood := { row := netCutsRow, standIns := [], harness := (true, "c9ceef9db859815cad1b801b1d7fca5839cd872f46d2935ba3ac644c77c5de30"), looks := false }, kinds := [], alts := [], laidByText := true, laidKinds := [.data], laidTests := true, laidLooks := .later }
def NetCutsCardSaid : Prop := Claim7.holds Tryd.pinned (.plain (OpenSpec.ofChange netCutsSpec)) netCutsCard

/-- THE TIED CARD OF 'folkmootlaw08.NetKeeps'. -/
def netKeepsCard : Claim7 := { stood := { row := netKeepsRow, standIns := [], harness := (true, "c9ceef9db859815cad1b801b1d7fca5839cd872f46d2935ba3ac644c77c5de30"), looks := false }, kinds := [], alts := [], laidByText := true, laidKinds := [.data], laidTests := true, laidLooks := .later }
def NetKeepsCardSaid : Prop := Claim7.holds Tryd.pinned (.plain (OpenSpec.ofChange netKeepsSpec)) netKeepsCard

/-- THE TIED CARD OF 'folkmootlaw08.NetPlays'. -/
def netPlaysCard : Claim7 := { stood := { row := netPlaysRow, standIns := [], harness := (true, "c9ceef9db859815cad1b801b1d7fca5839cd872f46d2935ba3ac644c77c5de30"), looks := false }, kinds := [], alts := [], laidByText := true, laidKinds := [.data], laidTests := true, laidLooks := .later }
def NetPlaysCardSaid : Prop := Claim7.holds Tryd.pinned (.plain (OpenSpec.ofChange netPlaysSpec)) netPlaysCard

/-- THE TIED CARD OF 'folkmootlaw08.NetNil'. -/
def netNilCard : Claim7 := { stood := { row := netNilRow, standIns := [], harness := (true, "c9ceef9db859815cad1b801b1d7fca5839cd872f46d2935ba3ac644c77c5de30"), looks := false }, kinds := [], alts := [], laidByText := true, laidKinds := [.data], laidTests := true, laidLooks := .later }
def NetNilCardSaid : Prop := Claim7.holds Tryd.pinned (.plain (OpenSpec.ofChange netNilSpec)) netNilCard

/-- THE SECOND FORM's CARD OF 'folkmootlaw08.NetClasses'. -/
def netClassesUptoCard : Claim7 := { stood := { row := netClassesUptoRow, standIns := [], harness := (true, "c9ceef9db859815cad1b801b1d7fca5839cd872f46d2935ba3ac644c77c5de30"), looks := false }, kinds := [], alts := [], laidByText := true, laidKinds := [.data], laidTests := true, laidLooks := .later }
def NetClassesUptoCardSaid : Prop := Claim7.holds Tryd.pinned (.plain (OpenSpec.upto netClassesSpec)) netClassesUptoCard

/-- THE SECOND FORM's CARD OF 'folkmootlaw08.NetTurns'. -/
def netTurnsUptoCard : Claim7 := { stood := { row := netTurnsUptoRow, standIns := [], harness := (true, "c9ceef9db859815cad1b801b1d7fca5839cd872f46d2935ba3ac644c77c5de30"), looks := false }, kinds := [], alts := [], laidByText := true, laidKinds := [.data], laidTests := true, laidLooks := .later }
def NetTurnsUptoCardSaid : Prop := Claim7.holds Tryd.pinned (.plain (OpenSpec.upto netTurnsSpec)) netTurnsUptoCard

/-- THE SECOND FORM's CARD OF 'folkmootlaw08.NetOrder'. -/
def netOrderUptoCard : Claim7 := { stood := { row := netOrderUptoRow, standIns := [], harness := (true, "c9ceef9db859815cad1b801b1d7fca5839cd872f46d2935ba3ac644c77c5de30"), looks := false }, kinds := [], alts := [], laidByText := true, laidKinds := [.data], laidTests := true, laidLooks := .later }
def NetOrderUptoCardSaid : Prop := Claim7.holds Tryd.pinned (.plain (OpenSpec.upto netOrderSpec)) netOrderUptoCard

/-- THE SECOND FORM's CARD OF 'folkmootlaw08.NetFull'. -/
def netFullUptoCard : Claim7 := { stood := { row := netFullUptoRow, standIns := [], harness := (true, "c9ceef9db859815cad1b801b1d7fca5839cd872f46d2935ba3ac644c77c5de30"), looks := false }, kinds := [], alts := [], laidByText := true, laidKinds := [.data], laidTests := true, laidLooks := .later }
def NetFullUptoCardSaid : Prop := Claim7.holds Tryd.pinned (.plain (OpenSpec.upto netFullSpec)) netFullUptoCard

/-- THE SECOND FORM's CARD OF 'folkmootlaw08.NetCuts'. -/
def netCutsUptoCard : Claim7 := { stood := { row := netCutsUptoRow, standIns := [], harness := (true, "c9ceef9db859815cad1b801b1d7fca5839cd872f46d2935ba3ac644c77c5de30"), looks := false }, kinds := [], alts := [], laidByText := true, laidKinds := [.data], laidTests := true, laidLooks := .later }
def NetCutsUptoCardSaid : Prop := Claim7.holds Tryd.pinned (.plain (OpenSpec.upto netCutsSpec)) netCutsUptoCard

/-- THE SECOND FORM's CARD OF 'folkmootlaw08.NetKeeps'. -/
def netKeepsUptoCard : Claim7 := { stood := { row := netKeepsUptoRow, standIns := [], harness := (true, "c9ceef9db859815cad1b801b1d7fca5839cd872f46d2935ba3ac644c77c5de30"), looks := false }, kinds := [], alts := [], laidByText := true, laidKinds := [.data], laidTests := true, laidLooks := .later }
def NetKeepsUptoCardSaid : Prop := Claim7.holds Tryd.pinned (.plain (OpenSpec.upto netKeepsSpec)) netKeepsUptoCard

/-- THE SECOND FORM's CARD OF 'folkmootlaw08.NetPlays'. -/
def netPlaysUptoCard : Claim7 := { stood := { row := netPlaysUptoRow, standIns := [], harness := (true, "c9ceef9db859815cad1b801b1d7fca5839cd872f46d2935ba3ac644c77c5de30"), looks := false }, kinds := [], alts := [], laidByText := true, laidKinds := [.data], laidTests := true, laidLooks := .later }
def NetPlaysUptoCardSaid : Prop := Claim7.holds Tryd.pinned (.plain (OpenSpec.upto netPlaysSpec)) netPlaysUptoCard

/-- THE SECOND FORM's CARD OF 'folkmootlaw08.NetNil'. -/
def netNilUptoCard : Claim7 := { stood := { row := netNilUptoRow, standIns := [], harness := (true, "c9ceef9db859815cad1b801b1d7fca5839cd872f46d2935ba3ac644c77c5de30"), looks := false }, kinds := [], alts := [], laidByText := true, laidKinds := [.data], laidTests := true, laidLooks := .later }
def NetNilUptoCardSaid : Prop := Claim7.holds Tryd.pinned (.plain (OpenSpec.upto netNilSpec)) netNilUptoCard
end Rows
end Go.Proofs.YtojlmilkdijiaaaDoor
