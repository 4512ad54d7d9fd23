/-
  DERIVED. GIVEN WITH THE SEED: THE CARDS: each row of YtbkgdepblaibkaaDoorRows.lean that lists a variable, with what it lists TIED to the program's text (the seventh form; the later family's looks); each row that meets fmt, with fmt's text TOLD by the authors' own Lean function (tested against real Go, not proved from fmt's source: count such statements apart). THE CARD IS WHAT COUNTS. Prove the row's statement (the work); the ties are given (YtbkgdepblaibkaaDoorTie.lean); close each card by the builder's one call (the guide's Derived/Test/ToyasCard.lean, 'card_holds'). Laid BY PROGRAM, IN A SANDBOX (cutbox-door.mjs). By AI agents, Wed Nov 11 2026. No macro, syntax, notation, axiom, sorry.
-/
import Derived.Test.YtbkgdepblaibkaaDoorRows
import GoSem.ClaimSeven
namespace Go.Proofs.YtbkgdepblaibkaaDoor
namespace Rows

/-- THE TIED CARD OF 'typecaselaw13.BlockEnds'. -/
def blockEndsCard : Claim7 := { stood := { row := blockEndsRow, standIns := [], harness := (true, "ae78293e55a1e57793156b061735e9fcce40baa6e9e48a58a3544e123d6d2881"), looks := true }, kinds := [], alts := [], laidByText := true, laidKinds := [.handle], laidTests := true, laidLooks := .later }
def BlockEndsCardSaid : Prop := Claim7.holds Tryd.pinned (.plain (OpenSpec.ofChange blockEndsSpec)) blockEndsCard

/-- THE TIED CARD OF 'typecaselaw13.BlockBehind'. -/
def blockBehindCard : Claim7 := { stood := { row := blockBehindRow, standIns := [], harness := (true, "ae78293e55a1e57793156b061735e9fcce40baa6e9e48a58a3544e123d6d2881"), looks := true }, kinds := [], alts := [], laidByText := true, laidKinds := [.handle], laidTests := true, laidLooks := .later }
def BlockBehindCardSaid : Prop := Claim7.holds Tryd.pinned (.plain (OpenSpec.ofChange blockBehindSpec)) blockBehindCard

/-- THE TIED CARD OF 'typecaselaw13.BlockWithin'. -/
def blockWithinCard : Claim7 := { stood := { row := blockWithinRow, standIns := [], harness := (true, "ae78293e55a1e57793156b061735e9fcce40baa6e9e48a58a3544e123d6d2881"), looks := true }, kinds := [], alts := [], laidByText := true, laidKinds := [.handle], laidTests := true, laidLooks := .later }
def BlockWithinCardSaid : Prop := Claim7.holds Tryd.pinned (.plain (OpenSpec.ofChange blockWithinSpec)) blockWithinCard

/-- THE TIED CARD OF 'typecaselaw13.BlockKinds'. -/
def blockKindsCard : Claim7 := { stood := { row := blockKindsRow, standIns := [], harness := (true, "ae78293e55a1e57793156b061735e9fcce40baa6e9e48a58a3544e123d6d2881"), looks := true }, kinds := [], alts := [], laidByText := true, laidKinds := [.handle], laidTests := true, laidLooks := .later }
def BlockKindsCardSaid : Prop := Claim7.holds Tryd.pinned (.plain (OpenSpec.ofChange blockKindsSpec)) blockKindsCard

/-- THE TIED CARD OF 'typecaselaw14.MacroHeads'. -/
def macroHeadsCard : Claim7 := { stood := { row := macroHeadsRow, standIns := [], harness := (true, "ae78293e55a1e57793156b061735e9fcce40baa6e9e48a58a3544e123d6d2881"), looks := true }, kinds := [], alts := [], laidByText := true, laidKinds := [.handle], laidTests := true, laidLooks := .later }
def MacroHeadsCardSaid : Prop := Claim7.holds Tryd.pinned (.plain (OpenSpec.ofChange macroHeadsSpec)) macroHeadsCard

/-- THE TIED CARD OF 'typecaselaw14.MacroBinds'. -/
def macroBindsCard : Claim7 := { stood := { row := macroBindsRow, standIns := [], harness := (true, "ae78293e55a1e57793156b061735e9fcce40baa6e9e48a58a3544e123d6d2881"), looks := true }, kinds := [], alts := [], laidByText := true, laidKinds := [.handle], laidTests := true, laidLooks := .later }
def MacroBindsCardSaid : Prop := Claim7.holds Tryd.pinned (.plain (OpenSpec.ofChange macroBindsSpec)) macroBindsCard

/-- THE TIED CARD OF 'typecaselaw14.MacroParts'. -/
def macroPartsCard : Claim7 := { stood := { row := macroPartsRow, standIns := [], harness := (true, "ae78293e55a1e57793156b061735e9fcce40baa6e9e48a58a3544e123d6d2881"), looks := true }, kinds := [], alts := [], laidByText := true, laidKinds := [.handle], laidTests := true, laidLooks := .later }
def MacroPartsCardSaid : Prop := Claim7.holds Tryd.pinned (.plain (OpenSpec.ofChange macroPartsSpec)) macroPartsCard

/-- THE TIED CARD OF 'typecaselaw14.MacroPlain'. -/
def macroPlainCard : Claim7 := { stood := { row := macroPlainRow, standIns := [], harness := (true, "ae78293e55a1e57793156b061735e9fcce40baa6e9e48a58a3544e123d6d2881"), looks := true }, kinds := [], alts := [], laidByText := true, laidKinds := [.handle], laidTests := true, laidLooks := .later }
def MacroPlainCardSaid : Prop := Claim7.holds Tryd.pinned (.plain (OpenSpec.ofChange macroPlainSpec)) macroPlainCard

/-- THE TIED CARD OF 'typecaselaw10.LexLines'. -/
def lexLinesCard : Claim7 := { stood := { row := lexLinesRow, standIns := [], harness := (true, "ae78293e55a1e57793156b061735e9fcce40baa6e9e48a58a3544e123d6d2881"), looks := true }, kinds := [], alts := [], laidByText := true, laidKinds := [.handle], laidTests := true, laidLooks := .later }
def LexLinesCardSaid : Prop := Claim7.holds Tryd.pinned (.plain (OpenSpec.ofChange lexLinesSpec)) lexLinesCard

/-- THE TIED CARD OF 'typecaselaw10.LexNames'. -/
def lexNamesCard : Claim7 := { stood := { row := lexNamesRow, standIns := [], harness := (true, "ae78293e55a1e57793156b061735e9fcce40baa6e9e48a58a3544e123d6d2881"), looks := true }, kinds := [], alts := [], laidByText := true, laidKinds := [.handle], laidTests := true, laidLooks := .later }
def LexNamesCardSaid : Prop := Claim7.holds Tryd.pinned (.plain (OpenSpec.ofChange lexNamesSpec)) lexNamesCard

/-- THE TIED CARD OF 'typecaselaw10.LexParts'. -/
def lexPartsCard : Claim7 := { stood := { row := lexPartsRow, standIns := [], harness := (true, "ae78293e55a1e57793156b061735e9fcce40baa6e9e48a58a3544e123d6d2881"), looks := true }, kinds := [], alts := [], laidByText := true, laidKinds := [.handle], laidTests := true, laidLooks := .later }
def LexPartsCardSaid : Prop := Claim7.holds Tryd.pinned (.plain (OpenSpec.ofChange lexPartsSpec)) lexPartsCard

/-- THE TIED CARD OF 'typecaselaw10.LexNumbers'. -/
def lexNumbersCard : Claim7 := { stood := { row := lexNumbersRow, standIns := [], harness := (true, "ae78293e55a1e57793156b061735e9fcce40baa6e9e48a58a3544e123d6d2881"), looks := true }, kinds := [], alts := [], laidByText := true, laidKinds := [.handle], laidTests := true, laidLooks := .later }
def LexNumbersCardSaid : Prop := Claim7.holds Tryd.pinned (.plain (OpenSpec.ofChange lexNumbersSpec)) lexNumbersCard

/-- THE TIED CARD OF 'typecaselaw10.LexBytes'. -/
def lexBytesCard : Claim7 := { stood := { row := lexBytesRow, standIns := [], harness := (true, "ae78293e55a1e57793156b061735e9fcce40baa6e9e48a58a3544e123d6d2881"), looks := true }, kinds := [], alts := [], laidByText := true, laidKinds := [.handle], laidTests := true, laidLooks := .later }
def LexBytesCardSaid : Prop := Claim7.holds Tryd.pinned (.plain (OpenSpec.ofChange lexBytesSpec)) lexBytesCard

/-- THE TIED CARD OF 'typecaselaw10.LexRemarks'. -/
def lexRemarksCard : Claim7 := { stood := { row := lexRemarksRow, standIns := [], harness := (true, "ae78293e55a1e57793156b061735e9fcce40baa6e9e48a58a3544e123d6d2881"), looks := true }, kinds := [], alts := [], laidByText := true, laidKinds := [.handle], laidTests := true, laidLooks := .later }
def LexRemarksCardSaid : Prop := Claim7.holds Tryd.pinned (.plain (OpenSpec.ofChange lexRemarksSpec)) lexRemarksCard

/-- THE SECOND FORM's CARD OF 'typecaselaw13.BlockEnds'. -/
def blockEndsUptoCard : Claim7 := { stood := { row := blockEndsUptoRow, standIns := [], harness := (true, "ae78293e55a1e57793156b061735e9fcce40baa6e9e48a58a3544e123d6d2881"), looks := true }, kinds := [], alts := [], laidByText := true, laidKinds := [.handle], laidTests := true, laidLooks := .later }
def BlockEndsUptoCardSaid : Prop := Claim7.holds Tryd.pinned (.plain (OpenSpec.upto blockEndsSpec)) blockEndsUptoCard

/-- THE SECOND FORM's CARD OF 'typecaselaw13.BlockBehind'. -/
def blockBehindUptoCard : Claim7 := { stood := { row := blockBehindUptoRow, standIns := [], harness := (true, "ae78293e55a1e57793156b061735e9fcce40baa6e9e48a58a3544e123d6d2881"), looks := true }, kinds := [], alts := [], laidByText := true, laidKinds := [.handle], laidTests := true, laidLooks := .later }
def BlockBehindUptoCardSaid : Prop := Claim7.holds Tryd.pinned (.plain (OpenSpec.upto blockBehindSpec)) blockBehindUptoCard

/-- THE SECOND FORM's CARD OF 'typecaselaw13.BlockWithin'. -/
def blockWithinUptoCard : Claim7 := { stood := { row := blockWithinUptoRow, standIns := [], harness := (true, "ae78293e55a1e57793156b061735e9fcce40baa6e9e48a58a3544e123d6d2881"), looks := true }, kinds := [], alts := [], laidByText := true, laidKinds := [.handle], laidTests := true, laidLooks := .later }
def BlockWithinUptoCardSaid : Prop := Claim7.holds Tryd.pinned (.plain (OpenSpec.upto blockWithinSpec)) blockWithinUptoCard

/-- THE SECOND FORM's CARD OF 'typecaselaw13.BlockKinds'. -/
def blockKindsUptoCard : Claim7 := { stood := { row := blockKindsUptoRow, standIns := [], harness := (true, "ae78293e55a1e57793156b061735e9fcce40baa6e9e48a58a3544e123d6d2881"), looks := true }, kinds := [], alts := [], laidByText := true, laidKinds := [.handle], laidTests := true, laidLooks := .later }
def BlockKindsUptoCardSaid : Prop := Claim7.holds Tryd.pinned (.plain (OpenSpec.upto blockKindsSpec)) blockKindsUptoCard

/-- THE SECOND FORM's CARD OF 'typecaselaw14.MacroHeads'. -/
def macroHeadsUptoCard : Claim7 := { stood := { row := macroHeadsUptoRow, standIns := [], harness := (true, "ae78293e55a1e57793156b061735e9fcce40baa6e9e48a58a3544e123d6d2881"), looks := true }, kinds := [], alts := [], laidByText := true, laidKinds := [.handle], laidTests := true, laidLooks := .later }
def MacroHeadsUptoCardSaid : Prop := Claim7.holds Tryd.pinned (.plain (OpenSpec.upto macroHeadsSpec)) macroHeadsUptoCard

/-- THE SECOND FORM's CARD OF 'typecaselaw14.MacroBinds'. -/
def macroBindsUptoCard : Claim7 := { stood := { row := macroBindsUptoRow, standIns := [], harness := (true, "ae78293e55a1e57793156b061735e9fcce40baa6e9e48a58a3544e123d6d2881"), looks := true }, kinds := [], alts := [], laidByText := true, laidKinds := [.handle], laidTests := true, laidLooks := .later }
def MacroBindsUptoCardSaid : Prop := Claim7.holds Tryd.pinned (.plain (OpenSpec.upto macroBindsSpec)) macroBindsUptoCard

/-- THE SECOND FORM's CARD OF 'typecaselaw14.MacroParts'. -/
def macroPartsUptoCard : Claim7 := { stood := { row := macroPartsUptoRow, standIns := [], harness := (true, "ae78293e55a1e57793156b061735e9fcce40baa6e9e48a58a3544e123d6d2881"), looks := true }, kinds := [], alts := [], laidByText := true, laidKinds := [.handle], laidTests := true, laidLooks := .later }
def MacroPartsUptoCardSaid : Prop := Claim7.holds Tryd.pinned (.plain (OpenSpec.upto macroPartsSpec)) macroPartsUptoCard

/-- THE SECOND FORM's CARD OF 'typecaselaw14.MacroPlain'. -/
def macroPlainUptoCard : Claim7 := { stood := { row := macroPlainUptoRow, standIns := [], harness := (true, "ae78293e55a1e57793156b061735e9fcce40baa6e9e48a58a3544e123d6d2881"), looks := true }, kinds := [], alts := [], laidByText := true, laidKinds := [.handle], laidTests := true, laidLooks := .later }
def MacroPlainUptoCardSaid : Prop := Claim7.holds Tryd.pinned (.plain (OpenSpec.upto macroPlainSpec)) macroPlainUptoCard

/-- THE SECOND FORM's CARD OF 'typecaselaw10.LexLines'. -/
def lexLinesUptoCard : Claim7 := { stood := { row := lexLinesUptoRow, standIns := [], harness := (true, "ae78293e55a1e57793156b061735e9fcce40baa6e9e48a58a3544e123d6d2881"), looks := true }, kinds := [], alts := [], laidByText := true, laidKinds := [.handle], laidTests := true, laidLooks := .later }
def LexLinesUptoCardSaid : Prop := Claim7.holds Tryd.pinned (.plain (OpenSpec.upto lexLinesSpec)) lexLinesUptoCard

/-- THE SECOND FORM's CARD OF 'typecaselaw10.LexNames'. -/
def lexNamesUptoCard : Claim7 := { stood := { row := lexNamesUptoRow, standIns := [], harness := (true, "ae78293e55a1e57793156b061735e9fcce40baa6e9e48a58a3544e123d6d2881"), looks := true }, kinds := [], alts := [], laidByText := true, laidKinds := [.handle], laidTests := true, laidLooks := .later }
def LexNamesUptoCardSaid : Prop := Claim7.holds Tryd.pinned (.plain (OpenSpec.upto lexNamesSpec)) lexNamesUptoCard

/-- THE SECOND FORM's CARD OF 'typecaselaw10.LexParts'. -/
def lexPartsUptoCard : Claim7 := { stood := { row := lexPartsUptoRow, standIns := [], harness := (true, "ae78293e55a1e57793156b061735e9fcce40baa6e9e48a58a3544e123d6d2881"), looks := true }, kinds := [], alts := [], laidByText := true, laidKinds := [.handle], laidTests := true, laidLooks := .later }
def LexPartsUptoCardSaid : Prop := Claim7.holds Tryd.pinned (.plain (OpenSpec.upto lexPartsSpec)) lexPartsUptoCard

/-- THE SECOND FORM's CARD OF 'typecaselaw10.LexNumbers'. -/
def lexNumbersUptoCard : Claim7 := { stood := { row := lexNumbersUptoRow, standIns := [], harness := (true, "ae78293e55a1e57793156b061735e9fcce40baa6e9e48a58a3544e123d6d2881"), looks := true }, kinds := [], alts := [], laidByText := true, laidKinds := [.handle], laidTests := true, laidLooks := .later }
def LexNumbersUptoCardSaid : Prop := Claim7.holds Tryd.pinned (.plain (OpenSpec.upto lexNumbersSpec)) lexNumbersUptoCard

/-- THE SECOND FORM's CARD OF 'typecaselaw10.LexBytes'. -/
def lexBytesUptoCard : Claim7 := { stood := { row := lexBytesUptoRow, standIns := [], harness := (true, "ae78293e55a1e57793156b061735e9fcce40baa6e9e48a58a3544e123d6d2881"), looks := true }, kinds := [], alts := [], laidByText := true, laidKinds := [.handle], laidTests := true, laidLooks := .later }
def LexBytesUptoCardSaid : Prop := Claim7.holds Tryd.pinned (.plain (OpenSpec.upto lexBytesSpec)) lexBytesUptoCard

/-- THE SECOND FORM's CARD OF 'typecaselaw10.LexRemarks'. -/
def lexRemarksUptoCard : Claim7 := { stood := { row := lexRemarksUptoRow, standIns := [], harness := (true, "ae78293e55a1e57793156b061735e9fcce40baa6e9e48a58a3544e123d6d2881"), looks := true }, kinds := [], alts := [], laidByText := true, laidKinds := [.handle], laidTests := true, laidLooks := .later }
def LexRemarksUptoCardSaid : Prop := Claim7.holds Tryd.pinned (.plain (OpenSpec.upto lexRemarksSpec)) lexRemarksUptoCard
end Rows
end Go.Proofs.YtbkgdepblaibkaaDoor
