/-
  DERIVED. GIVEN WITH THE SEED: THE CARDS: each row of YtaodmbolhoafcaaGreatDoorRows.lean that lists a variable, with what it lists TIED to the program's text (the seventh form; the later family's looks); each row that meets fmt, with fmt's text TOLD by the authors' own Lean function (tested against real Go, not proved from fmt's source: count such statements apart). THE CARD IS WHAT COUNTS. Prove the row's statement (the work); the ties are given (YtaodmbolhoafcaaGreatDoorTie.lean); close each card by the builder's one call (the guide's Derived/Test/ToyasCard.lean, 'card_holds'). Laid BY PROGRAM, IN A SANDBOX (cutbox-door.mjs). By AI agents, Wed Nov 11 2026. No macro, syntax, notation, axiom, sorry.
-/
import Derived.Test.YtaodmbolhoafcaaGreatDoorRows
import GoSem.ClaimSeven
namespace Go.Proofs.YtaodmbolhoafcaaGreatDoor
namespace Rows

/-- THE TIED CARD OF 'firkintop.WholeRound'. -/
def wholeRoundCard : Claim7 := { stood := { row := wholeRoundRow, standIns := [], harness := (true, "f37709c0db87b3e92118d3f6afeacaef4df887f9f9b30b96926b4492ac68e916"), looks := false }, kinds := [], alts := [], laidByText := true, laidKinds := [.data], laidTests := true, laidLooks := .later }
def WholeRoundCardSaid : Prop := Claim7.holds Tryz.pinned (.plain (OpenSpec.ofChange wholeRoundSpec)) wholeRoundCard

/-- THE TIED CARD OF 'firkintop.WholeClean'. -/
def wholeCleanCard : Claim7 := { stood := { row := wholeCleanRow, standIns := [], harness := (true, "f37709c0db87b3e92118d3f6afeacaef4df887f9f9b30b96926b4492ac68e916"), looks := false }, kinds := [], alts := [], laidByText := true, laidKinds := [.data], laidTests := true, laidLooks := .later }
def WholeCleanCardSaid : Prop := Claim7.holds Tryz.pinned (.plain (OpenSpec.ofChange wholeCleanSpec)) wholeCleanCard

/-- THE TIED CARD OF 'firkintop.WholeOne'. -/
def wholeOneCard : Claim7 := { stood := { row := wholeOneRow, standIns := [], harness := (true, "f37709c0db87b3e92118d3f6afeacaef4df887f9f9b30b96926b4492ac68e916"), looks := false }, kinds := [], alts := [], laidByText := true, laidKinds := [.data], laidTests := true, laidLooks := .later }
def WholeOneCardSaid : Prop := Claim7.holds Tryz.pinned (.plain (OpenSpec.ofChange wholeOneSpec)) wholeOneCard

/-- THE TIED CARD OF 'firkintop.WholeRepair'. -/
def wholeRepairCard : Claim7 := { stood := { row := wholeRepairRow, standIns := [], harness := (true, "f37709c0db87b3e92118d3f6afeacaef4df887f9f9b30b96926b4492ac68e916"), looks := false }, kinds := [], alts := [], laidByText := true, laidKinds := [.data], laidTests := true, laidLooks := .later }
def WholeRepairCardSaid : Prop := Claim7.holds Tryz.pinned (.plain (OpenSpec.ofChange wholeRepairSpec)) wholeRepairCard

/-- THE TIED CARD OF 'firkintop.WholeSalvage'. -/
def wholeSalvageCard : Claim7 := { stood := { row := wholeSalvageRow, standIns := [], harness := (true, "f37709c0db87b3e92118d3f6afeacaef4df887f9f9b30b96926b4492ac68e916"), looks := false }, kinds := [], alts := [], laidByText := true, laidKinds := [.data], laidTests := true, laidLooks := .later }
def WholeSalvageCardSaid : Prop := Claim7.holds Tryz.pinned (.plain (OpenSpec.ofChange wholeSalvageSpec)) wholeSalvageCard

/-- THE SECOND FORM's CARD OF 'firkintop.WholeRound'. -/
def wholeRoundUptoCard : Claim7 := { stood := { row := wholeRoundUptoRow, standIns := [], harness := (true, "f37709c0db87b3e92118d3f6afeacaef4df887f9f9b30b96926b4492ac68e916"), looks := false }, kinds := [], alts := [], laidByText := true, laidKinds := [.data], laidTests := true, laidLooks := .later }
def WholeRoundUptoCardSaid : Prop := Claim7.holds Tryz.pinned (.plain (OpenSpec.upto wholeRoundSpec)) wholeRoundUptoCard

/-- THE SECOND FORM's CARD OF 'firkintop.WholeClean'. -/
def wholeCleanUptoCard : Claim7 := { stood := { row := wholeCleanUptoRow, standIns := [], harness := (true, "f37709c0db87b3e92118d3f6afeacaef4df887f9f9b30b96926b4492ac68e916"), looks := false }, kinds := [], alts := [], laidByText := true, laidKinds := [.data], laidTests := true, laidLooks := .later }
def WholeCleanUptoCardSaid : Prop := Claim7.holds Tryz.pinned (.plain (OpenSpec.upto wholeCleanSpec)) wholeCleanUptoCard

/-- THE SECOND FORM's CARD OF 'firkintop.WholeOne'. -/
def wholeOneUptoCard : Claim7 := { stood := { row := wholeOneUptoRow, standIns := [], harness := (true, "f37709c0db87b3e92118d3f6afeacaef4df887f9f9b30b96926b4492ac68e916"), looks := false }, kinds := [], alts := [], laidByText := true, laidKinds := [.data], laidTests := true, laidLooks := .later }
def WholeOneUptoCardSaid : Prop := Claim7.holds Tryz.pinned (.plain (OpenSpec.upto wholeOneSpec)) wholeOneUptoCard

/-- THE SECOND FORM's CARD OF 'firkintop.WholeRepair'. -/
def wholeRepairUptoCard : Claim7 := { stood := { row := wholeRepairUptoRow, standIns := [], harness := (true, "f37709c0db87b3e92118d3f6afeacaef4df887f9f9b30b96926b4492ac68e916"), looks := false }, kinds := [], alts := [], laidByText := true, laidKinds := [.data], laidTests := true, laidLooks := .later }
def WholeRepairUptoCardSaid : Prop := Claim7.holds Tryz.pinned (.plain (OpenSpec.upto wholeRepairSpec)) wholeRepairUptoCard

/-- THE SECOND FORM's CARD OF 'firkintop.WholeSalvage'. -/
def wholeSalvageUptoCard : Claim7 := { stood := { row := wholeSalvageUptoRow, standIns := [], harness := (true, "f37709c0db87b3e92118d3f6afeacaef4df887f9f9b30b96926b4492ac68e916"), looks := false }, kinds := [], alts := [], laidByText := true, laidKinds := [.data], laidTests := true, laidLooks := .later }
def WholeSalvageUptoCardSaid : Prop := Claim7.holds Tryz.pinned (.plain (OpenSpec.upto wholeSalvageSpec)) wholeSalvageUptoCard
end Rows
end Go.Proofs.YtaodmbolhoafcaaGreatDoor
