/-
  DERIVED. GIVEN WITH THE SEED: THE CARDS: each row of YtcdjabfhmhibjaaDoorRows.lean that lists a variable, with what it lists TIED to the program's text (the seventh form; the later family's looks); each row that meets fmt, with fmt's text TOLD by the authors' own Lean function (tested against real Go, not proved from fmt's source: count such statements apart). THE CARD IS WHAT COUNTS. Prove the row's statement (the work); the ties are given (YtcdjabfhmhibjaaDoorTie.lean); close each card by the builder's one call (the guide's Derived/Test/ToyasCard.lean, 'card_holds'). Laid BY PROGRAM, IN A SANDBOX (cutbox-door.mjs). By AI agents, Wed Nov 11 2026. No macro, syntax, notation, axiom, sorry.
-/
import Derived.Test.YtcdjabfhmhibjaaDoorRows
import GoSem.ClaimSeven
namespace Go.Proofs.YtcdjabfhmhibjaaDoor
namespace Rows

/-- THE TIED CARD OF 'typecaselaw03.InsMay'. -/
def insMayCard : Claim7 := { stood := { row := insMayRow, standIns := [], harness := (true, "7b222f9ee34aa8c1556aff43da5f6787341e40173b13b20176a0b99de58f809f"), looks := false }, kinds := [], alts := [], laidByText := true, laidKinds := [.data, .data, .data, .data, .data], laidTests := true, laidLooks := .later }
def InsMayCardSaid : Prop := Claim7.holds Tryd.pinned (.plain (OpenSpec.ofChange insMaySpec)) insMayCard

/-- THE TIED CARD OF 'typecaselaw03.InsNames'. -/
def insNamesCard : Claim7 := { stood := { row := insNamesRow, standIns := [], harness := (true, "7b222f9ee34aa8c1556aff43da5f6787341e40173b13b20176a0b99de58f809f"), looks := false }, kinds := [], alts := [], laidByText := true, laidKinds := [.data, .data, .data, .data, .data], laidTests := true, laidLooks := .later }
def InsNamesCardSaid : Prop := Claim7.holds Tryd.pinned (.plain (OpenSpec.ofChange insNamesSpec)) insNamesCard

/-- THE TIED CARD OF 'typecaselaw03.InsRegs'. -/
def insRegsCard : Claim7 := { stood := { row := insRegsRow, standIns := [], harness := (true, "7b222f9ee34aa8c1556aff43da5f6787341e40173b13b20176a0b99de58f809f"), looks := false }, kinds := [], alts := [], laidByText := true, laidKinds := [.data, .data, .data, .data, .data], laidTests := true, laidLooks := .later }
def InsRegsCardSaid : Prop := Claim7.holds Tryd.pinned (.plain (OpenSpec.ofChange insRegsSpec)) insRegsCard

/-- THE SECOND FORM's CARD OF 'typecaselaw03.InsMay'. -/
def insMayUptoCard : Claim7 := { stood := { row := insMayUptoRow, standIns := [], harness := (true, "7b222f9ee34aa8c1556aff43da5f6787341e40173b13b20176a0b99de58f809f"), looks := false }, kinds := [], alts := [], laidByText := true, laidKinds := [.data, .data, .data, .data, .data], laidTests := true, laidLooks := .later }
def InsMayUptoCardSaid : Prop := Claim7.holds Tryd.pinned (.plain (OpenSpec.upto insMaySpec)) insMayUptoCard

/-- THE SECOND FORM's CARD OF 'typecaselaw03.InsNames'. -/
def insNamesUptoCard : Claim7 := { stood := { row := insNamesUptoRow, standIns := [], harness := (true, "7b222f9ee34aa8c1556aff43da5f6787341e40173b13b20176a0b99de58f809f"), looks := false }, kinds := [], alts := [], laidByText := true, laidKinds := [.data, .data, .data, .data, .data], laidTests := true, laidLooks := .later }
def InsNamesUptoCardSaid : Prop := Claim7.holds Tryd.pinned (.plain (OpenSpec.upto insNamesSpec)) insNamesUptoCard

/-- THE SECOND FORM's CARD OF 'typecaselaw03.InsRegs'. -/
def insRegsUptoCard : Claim7 := { stood := { row := insRegsUptoRow, standIns := [], harness := (true, "7b222f9ee34aa8c1556aff43da5f6787341e40173b13b20176a0b99de58f809f"), looks := false }, kinds := [], alts := [], laidByText := true, laidKinds := [.data, .data, .data, .data, .data], laidTests := true, laidLooks := .later }
def InsRegsUptoCardSaid : Prop := Claim7.holds Tryd.pinned (.plain (OpenSpec.upto insRegsSpec)) insRegsUptoCard
end Rows
end Go.Proofs.YtcdjabfhmhibjaaDoor
