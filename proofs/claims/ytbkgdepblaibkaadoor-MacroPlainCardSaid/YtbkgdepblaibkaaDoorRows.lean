/-
  NARROWER THAN 'FOR EVERY INPUT', by the rows' own cells (each row's printed sentence says how): BlockEnds: laid · BlockBehind: laid · BlockWithin: laid · BlockKinds: laid · MacroHeads: laid · MacroBinds: laid · MacroParts: laid · MacroPlain: laid · LexLines: laid · LexNames: laid · LexParts: laid · LexNumbers: laid · LexBytes: laid · LexRemarks: laid.
  DERIVED. THE GIVEN ROWS OF THIS SEAT. 14 by the template 'for every input the law returns true; each argument reads behind the call as it read before'; 0 by the template 'total and deterministic' (their statements: YtbkgdepblaibkaaDoorTotals.lean).
  GIVEN WITH THE SEED: the statements are not yours to turn. If you find one false, say at which input.
  Laid BY PROGRAM, IN A SANDBOX (cutbox-rows.mjs): the forced cells as the released guide's own fill.sh prints them over the translation 7ac67e43e6f5059a… (all of the seat's roots in one cut). By AI agents, Wed Nov 11 2026. No macro, syntax, notation, axiom, sorry.
-/
import Derived.Test.YtbkgdepblaibkaaDoorChecked
import GoSem.Claim
import GoSem.ClaimJoined
import GoSem.ClaimMapViews
import Derived.JoinedTies
import Derived.KernelRfl
namespace Go.Proofs.YtbkgdepblaibkaaDoor
/- THE CELL 'sum', in the pinned program and in every row, IS THE sha256 OF THE DUMP (.gsa) THAT YtbkgdepblaibkaaDoorProg.lean LOADS. Nothing in Lean hashes anything: it is a label: what it is worth is what the hold of that sum in a sandbox is worth. -/
noncomputable def Tryd.pinned : Pinned := { name := "ytbkgdepblaibkaadoor", sum := "7ac67e43e6f5059a103b76f12ac3199764c785a2c0c47a3f52aee7a7c317afd2", checked := Tryd.checked }
namespace Rows
def none {H : Type} : Left H := { results := [], args := [] }

/- WHAT THE LISTED PACKAGE-LEVEL VARIABLES READ AS WHEN THE CALL BEGINS. Each datum BY PROGRAM (the guide's laid-datum.mjs) off the statement by which the dump's own 'gosem.cut.vars' lays the variable. In a bare row this is a premise. The card (YtbkgdepblaibkaaDoorCards.lean) ties it to the program's text. -/
def laid_errors_errorType {H : Type} : DataW H := .iface "internal/reflectlite.rtype" (.agg [.ptr (.lit (.string [101, 114, 114, 111, 114]))])

/-- 'typecaselaw13.BlockEnds': WHATEVER THE INPUT: true; the input reads as it did. -/
def blockEndsSpec : ChangeSpec := { name := "blockEnds", fn := fun _ => fun
  | [d1, d2] => { results := [.lit (.bool true)], args := [d1, d2] }
  | _ => none }
def blockEndsRow : OpenClaim := { program := "ytbkgdepblaibkaadoor", sum := "7ac67e43e6f5059a103b76f12ac3199764c785a2c0c47a3f52aee7a7c317afd2", func := "typecase/typecaselaw13.BlockEnds", spec := "blockEnds", inPlace := ["internal/reflectlite.ValueOf", "(internal/reflectlite.Value).Type", "(internal/reflectlite.Value).IsNil", "internal/reflectlite.TypeOf", "(internal/reflectlite.Value).Elem", "(internal/reflectlite.Value).Set"], unfollowed := true, recurses := true, named := ["errors.errorType"], apart := false, laid := [("errors.errorType", laid_errors_errorType)] }
def BlockEndsSaid : Prop := blockEndsRow.holds Tryd.pinned (OpenSpec.ofChange blockEndsSpec)

/-- ITS FALSE NEIGHBOUR: 'it returns false'. Refute it at one input. -/
def blockEndsWrong : ChangeSpec := { name := "blockEnds", fn := fun _ => fun
  | [d1, d2] => { results := [.lit (.bool false)], args := [d1, d2] }
  | _ => none }
def BlockEndsWrongFalsely : Prop := blockEndsRow.holds Tryd.pinned (OpenSpec.ofChange blockEndsWrong)

/-- 'typecaselaw13.BlockBehind': WHATEVER THE INPUT: true; the input reads as it did. -/
def blockBehindSpec : ChangeSpec := { name := "blockBehind", fn := fun _ => fun
  | [d1, d2, d3] => { results := [.lit (.bool true)], args := [d1, d2, d3] }
  | _ => none }
def blockBehindRow : OpenClaim := { program := "ytbkgdepblaibkaadoor", sum := "7ac67e43e6f5059a103b76f12ac3199764c785a2c0c47a3f52aee7a7c317afd2", func := "typecase/typecaselaw13.BlockBehind", spec := "blockBehind", inPlace := ["internal/reflectlite.ValueOf", "(internal/reflectlite.Value).Type", "(internal/reflectlite.Value).IsNil", "internal/reflectlite.TypeOf", "(internal/reflectlite.Value).Elem", "(internal/reflectlite.Value).Set"], unfollowed := true, recurses := true, named := ["errors.errorType"], apart := false, laid := [("errors.errorType", laid_errors_errorType)] }
def BlockBehindSaid : Prop := blockBehindRow.holds Tryd.pinned (OpenSpec.ofChange blockBehindSpec)

/-- ITS FALSE NEIGHBOUR: 'it returns false'. Refute it at one input. -/
def blockBehindWrong : ChangeSpec := { name := "blockBehind", fn := fun _ => fun
  | [d1, d2, d3] => { results := [.lit (.bool false)], args := [d1, d2, d3] }
  | _ => none }
def BlockBehindWrongFalsely : Prop := blockBehindRow.holds Tryd.pinned (OpenSpec.ofChange blockBehindWrong)

/-- 'typecaselaw13.BlockWithin': WHATEVER THE INPUT: true; the input reads as it did. -/
def blockWithinSpec : ChangeSpec := { name := "blockWithin", fn := fun _ => fun
  | [d1, d2, d3] => { results := [.lit (.bool true)], args := [d1, d2, d3] }
  | _ => none }
def blockWithinRow : OpenClaim := { program := "ytbkgdepblaibkaadoor", sum := "7ac67e43e6f5059a103b76f12ac3199764c785a2c0c47a3f52aee7a7c317afd2", func := "typecase/typecaselaw13.BlockWithin", spec := "blockWithin", inPlace := ["internal/reflectlite.ValueOf", "(internal/reflectlite.Value).Type", "(internal/reflectlite.Value).IsNil", "internal/reflectlite.TypeOf", "(internal/reflectlite.Value).Elem", "(internal/reflectlite.Value).Set"], unfollowed := true, recurses := true, named := ["errors.errorType"], apart := false, laid := [("errors.errorType", laid_errors_errorType)] }
def BlockWithinSaid : Prop := blockWithinRow.holds Tryd.pinned (OpenSpec.ofChange blockWithinSpec)

/-- ITS FALSE NEIGHBOUR: 'it returns false'. Refute it at one input. -/
def blockWithinWrong : ChangeSpec := { name := "blockWithin", fn := fun _ => fun
  | [d1, d2, d3] => { results := [.lit (.bool false)], args := [d1, d2, d3] }
  | _ => none }
def BlockWithinWrongFalsely : Prop := blockWithinRow.holds Tryd.pinned (OpenSpec.ofChange blockWithinWrong)

/-- 'typecaselaw13.BlockKinds': WHATEVER THE INPUT: true; the input reads as it did. -/
def blockKindsSpec : ChangeSpec := { name := "blockKinds", fn := fun _ => fun
  | [d] => { results := [.lit (.bool true)], args := [d] }
  | _ => none }
def blockKindsRow : OpenClaim := { program := "ytbkgdepblaibkaadoor", sum := "7ac67e43e6f5059a103b76f12ac3199764c785a2c0c47a3f52aee7a7c317afd2", func := "typecase/typecaselaw13.BlockKinds", spec := "blockKinds", inPlace := ["internal/reflectlite.ValueOf", "(internal/reflectlite.Value).Type", "(internal/reflectlite.Value).IsNil", "internal/reflectlite.TypeOf", "(internal/reflectlite.Value).Elem", "(internal/reflectlite.Value).Set"], unfollowed := true, recurses := true, named := ["errors.errorType"], apart := false, laid := [("errors.errorType", laid_errors_errorType)] }
def BlockKindsSaid : Prop := blockKindsRow.holds Tryd.pinned (OpenSpec.ofChange blockKindsSpec)

/-- ITS FALSE NEIGHBOUR: 'it returns false'. Refute it at one input. -/
def blockKindsWrong : ChangeSpec := { name := "blockKinds", fn := fun _ => fun
  | [d] => { results := [.lit (.bool false)], args := [d] }
  | _ => none }
def BlockKindsWrongFalsely : Prop := blockKindsRow.holds Tryd.pinned (OpenSpec.ofChange blockKindsWrong)

/-- 'typecaselaw14.MacroHeads': WHATEVER THE INPUT: true; the input reads as it did. -/
def macroHeadsSpec : ChangeSpec := { name := "macroHeads", fn := fun _ => fun
  | [d] => { results := [.lit (.bool true)], args := [d] }
  | _ => none }
def macroHeadsRow : OpenClaim := { program := "ytbkgdepblaibkaadoor", sum := "7ac67e43e6f5059a103b76f12ac3199764c785a2c0c47a3f52aee7a7c317afd2", func := "typecase/typecaselaw14.MacroHeads", spec := "macroHeads", inPlace := ["internal/reflectlite.ValueOf", "(internal/reflectlite.Value).Type", "(internal/reflectlite.Value).IsNil", "internal/reflectlite.TypeOf", "(internal/reflectlite.Value).Elem", "(internal/reflectlite.Value).Set"], unfollowed := true, recurses := true, named := ["errors.errorType"], apart := false, laid := [("errors.errorType", laid_errors_errorType)] }
def MacroHeadsSaid : Prop := macroHeadsRow.holds Tryd.pinned (OpenSpec.ofChange macroHeadsSpec)

/-- ITS FALSE NEIGHBOUR: 'it returns false'. Refute it at one input. -/
def macroHeadsWrong : ChangeSpec := { name := "macroHeads", fn := fun _ => fun
  | [d] => { results := [.lit (.bool false)], args := [d] }
  | _ => none }
def MacroHeadsWrongFalsely : Prop := macroHeadsRow.holds Tryd.pinned (OpenSpec.ofChange macroHeadsWrong)

/-- 'typecaselaw14.MacroBinds': WHATEVER THE INPUT: true; the input reads as it did. -/
def macroBindsSpec : ChangeSpec := { name := "macroBinds", fn := fun _ => fun
  | [d1, d2, d3] => { results := [.lit (.bool true)], args := [d1, d2, d3] }
  | _ => none }
def macroBindsRow : OpenClaim := { program := "ytbkgdepblaibkaadoor", sum := "7ac67e43e6f5059a103b76f12ac3199764c785a2c0c47a3f52aee7a7c317afd2", func := "typecase/typecaselaw14.MacroBinds", spec := "macroBinds", inPlace := ["internal/reflectlite.ValueOf", "(internal/reflectlite.Value).Type", "(internal/reflectlite.Value).IsNil", "internal/reflectlite.TypeOf", "(internal/reflectlite.Value).Elem", "(internal/reflectlite.Value).Set"], unfollowed := true, recurses := true, named := ["errors.errorType"], apart := false, laid := [("errors.errorType", laid_errors_errorType)] }
def MacroBindsSaid : Prop := macroBindsRow.holds Tryd.pinned (OpenSpec.ofChange macroBindsSpec)

/-- ITS FALSE NEIGHBOUR: 'it returns false'. Refute it at one input. -/
def macroBindsWrong : ChangeSpec := { name := "macroBinds", fn := fun _ => fun
  | [d1, d2, d3] => { results := [.lit (.bool false)], args := [d1, d2, d3] }
  | _ => none }
def MacroBindsWrongFalsely : Prop := macroBindsRow.holds Tryd.pinned (OpenSpec.ofChange macroBindsWrong)

/-- 'typecaselaw14.MacroParts': WHATEVER THE INPUT: true; the input reads as it did. -/
def macroPartsSpec : ChangeSpec := { name := "macroParts", fn := fun _ => fun
  | [d] => { results := [.lit (.bool true)], args := [d] }
  | _ => none }
def macroPartsRow : OpenClaim := { program := "ytbkgdepblaibkaadoor", sum := "7ac67e43e6f5059a103b76f12ac3199764c785a2c0c47a3f52aee7a7c317afd2", func := "typecase/typecaselaw14.MacroParts", spec := "macroParts", inPlace := ["internal/reflectlite.ValueOf", "(internal/reflectlite.Value).Type", "(internal/reflectlite.Value).IsNil", "internal/reflectlite.TypeOf", "(internal/reflectlite.Value).Elem", "(internal/reflectlite.Value).Set"], unfollowed := true, recurses := true, named := ["errors.errorType"], apart := false, laid := [("errors.errorType", laid_errors_errorType)] }
def MacroPartsSaid : Prop := macroPartsRow.holds Tryd.pinned (OpenSpec.ofChange macroPartsSpec)

/-- ITS FALSE NEIGHBOUR: 'it returns false'. Refute it at one input. -/
def macroPartsWrong : ChangeSpec := { name := "macroParts", fn := fun _ => fun
  | [d] => { results := [.lit (.bool false)], args := [d] }
  | _ => none }
def MacroPartsWrongFalsely : Prop := macroPartsRow.holds Tryd.pinned (OpenSpec.ofChange macroPartsWrong)

/-- 'typecaselaw14.MacroPlain': WHATEVER THE INPUT: true; the input reads as it did. -/
def macroPlainSpec : ChangeSpec := { name := "macroPlain", fn := fun _ => fun
  | [d1, d2, d3] => { results := [.lit (.bool true)], args := [d1, d2, d3] }
  | _ => none }
def macroPlainRow : OpenClaim := { program := "ytbkgdepblaibkaadoor", sum := "7ac67e43e6f5059a103b76f12ac3199764c785a2c0c47a3f52aee7a7c317afd2", func := "typecase/typecaselaw14.MacroPlain", spec := "macroPlain", inPlace := ["internal/reflectlite.ValueOf", "(internal/reflectlite.Value).Type", "(internal/reflectlite.Value).IsNil", "internal/reflectlite.TypeOf", "(internal/reflectlite.Value).Elem", "(internal/reflectlite.Value).Set"], unfollowed := true, recurses := true, named := ["errors.errorType"], apart := false, laid := [("errors.errorType", laid_errors_errorType)] }
def MacroPlainSaid : Prop := macroPlainRow.holds Tryd.pinned (OpenSpec.ofChange macroPlainSpec)

/-- ITS FALSE NEIGHBOUR: 'it returns false'. Refute it at one input. -/
def macroPlainWrong : ChangeSpec := { name := "macroPlain", fn := fun _ => fun
  | [d1, d2, d3] => { results := [.lit (.bool false)], args := [d1, d2, d3] }
  | _ => none }
def MacroPlainWrongFalsely : Prop := macroPlainRow.holds Tryd.pinned (OpenSpec.ofChange macroPlainWrong)

/-- 'typecaselaw10.LexLines': WHATEVER THE INPUT: true; the input reads as it did. -/
def lexLinesSpec : ChangeSpec := { name := "lexLines", fn := fun _ => fun
  | [d] => { results := [.lit (.bool true)], args := [d] }
  | _ => none }
def lexLinesRow : OpenClaim := { program := "ytbkgdepblaibkaadoor", sum := "7ac67e43e6f5059a103b76f12ac3199764c785a2c0c47a3f52aee7a7c317afd2", func := "typecase/typecaselaw10.LexLines", spec := "lexLines", inPlace := ["internal/reflectlite.ValueOf", "(internal/reflectlite.Value).Type", "(internal/reflectlite.Value).IsNil", "internal/reflectlite.TypeOf", "(internal/reflectlite.Value).Elem", "(internal/reflectlite.Value).Set"], unfollowed := true, recurses := true, named := ["errors.errorType"], apart := false, laid := [("errors.errorType", laid_errors_errorType)] }
def LexLinesSaid : Prop := lexLinesRow.holds Tryd.pinned (OpenSpec.ofChange lexLinesSpec)

/-- ITS FALSE NEIGHBOUR: 'it returns false'. Refute it at one input. -/
def lexLinesWrong : ChangeSpec := { name := "lexLines", fn := fun _ => fun
  | [d] => { results := [.lit (.bool false)], args := [d] }
  | _ => none }
def LexLinesWrongFalsely : Prop := lexLinesRow.holds Tryd.pinned (OpenSpec.ofChange lexLinesWrong)

/-- 'typecaselaw10.LexNames': WHATEVER THE INPUT: true; the input reads as it did. -/
def lexNamesSpec : ChangeSpec := { name := "lexNames", fn := fun _ => fun
  | [d] => { results := [.lit (.bool true)], args := [d] }
  | _ => none }
def lexNamesRow : OpenClaim := { program := "ytbkgdepblaibkaadoor", sum := "7ac67e43e6f5059a103b76f12ac3199764c785a2c0c47a3f52aee7a7c317afd2", func := "typecase/typecaselaw10.LexNames", spec := "lexNames", inPlace := ["internal/reflectlite.ValueOf", "(internal/reflectlite.Value).Type", "(internal/reflectlite.Value).IsNil", "internal/reflectlite.TypeOf", "(internal/reflectlite.Value).Elem", "(internal/reflectlite.Value).Set"], unfollowed := true, recurses := true, named := ["errors.errorType"], apart := false, laid := [("errors.errorType", laid_errors_errorType)] }
def LexNamesSaid : Prop := lexNamesRow.holds Tryd.pinned (OpenSpec.ofChange lexNamesSpec)

/-- ITS FALSE NEIGHBOUR: 'it returns false'. Refute it at one input. -/
def lexNamesWrong : ChangeSpec := { name := "lexNames", fn := fun _ => fun
  | [d] => { results := [.lit (.bool false)], args := [d] }
  | _ => none }
def LexNamesWrongFalsely : Prop := lexNamesRow.holds Tryd.pinned (OpenSpec.ofChange lexNamesWrong)

/-- 'typecaselaw10.LexParts': WHATEVER THE INPUT: true; the input reads as it did. -/
def lexPartsSpec : ChangeSpec := { name := "lexParts", fn := fun _ => fun
  | [d1, d2] => { results := [.lit (.bool true)], args := [d1, d2] }
  | _ => none }
def lexPartsRow : OpenClaim := { program := "ytbkgdepblaibkaadoor", sum := "7ac67e43e6f5059a103b76f12ac3199764c785a2c0c47a3f52aee7a7c317afd2", func := "typecase/typecaselaw10.LexParts", spec := "lexParts", inPlace := ["internal/reflectlite.ValueOf", "(internal/reflectlite.Value).Type", "(internal/reflectlite.Value).IsNil", "internal/reflectlite.TypeOf", "(internal/reflectlite.Value).Elem", "(internal/reflectlite.Value).Set"], unfollowed := true, recurses := true, named := ["errors.errorType"], apart := false, laid := [("errors.errorType", laid_errors_errorType)] }
def LexPartsSaid : Prop := lexPartsRow.holds Tryd.pinned (OpenSpec.ofChange lexPartsSpec)

/-- ITS FALSE NEIGHBOUR: 'it returns false'. Refute it at one input. -/
def lexPartsWrong : ChangeSpec := { name := "lexParts", fn := fun _ => fun
  | [d1, d2] => { results := [.lit (.bool false)], args := [d1, d2] }
  | _ => none }
def LexPartsWrongFalsely : Prop := lexPartsRow.holds Tryd.pinned (OpenSpec.ofChange lexPartsWrong)

/-- 'typecaselaw10.LexNumbers': WHATEVER THE INPUT: true; the input reads as it did. -/
def lexNumbersSpec : ChangeSpec := { name := "lexNumbers", fn := fun _ => fun
  | [d] => { results := [.lit (.bool true)], args := [d] }
  | _ => none }
def lexNumbersRow : OpenClaim := { program := "ytbkgdepblaibkaadoor", sum := "7ac67e43e6f5059a103b76f12ac3199764c785a2c0c47a3f52aee7a7c317afd2", func := "typecase/typecaselaw10.LexNumbers", spec := "lexNumbers", inPlace := ["internal/reflectlite.ValueOf", "(internal/reflectlite.Value).Type", "(internal/reflectlite.Value).IsNil", "internal/reflectlite.TypeOf", "(internal/reflectlite.Value).Elem", "(internal/reflectlite.Value).Set"], unfollowed := true, recurses := true, named := ["errors.errorType"], apart := false, laid := [("errors.errorType", laid_errors_errorType)] }
def LexNumbersSaid : Prop := lexNumbersRow.holds Tryd.pinned (OpenSpec.ofChange lexNumbersSpec)

/-- ITS FALSE NEIGHBOUR: 'it returns false'. Refute it at one input. -/
def lexNumbersWrong : ChangeSpec := { name := "lexNumbers", fn := fun _ => fun
  | [d] => { results := [.lit (.bool false)], args := [d] }
  | _ => none }
def LexNumbersWrongFalsely : Prop := lexNumbersRow.holds Tryd.pinned (OpenSpec.ofChange lexNumbersWrong)

/-- 'typecaselaw10.LexBytes': WHATEVER THE INPUT: true; the input reads as it did. -/
def lexBytesSpec : ChangeSpec := { name := "lexBytes", fn := fun _ => fun
  | [d] => { results := [.lit (.bool true)], args := [d] }
  | _ => none }
def lexBytesRow : OpenClaim := { program := "ytbkgdepblaibkaadoor", sum := "7ac67e43e6f5059a103b76f12ac3199764c785a2c0c47a3f52aee7a7c317afd2", func := "typecase/typecaselaw10.LexBytes", spec := "lexBytes", inPlace := ["internal/reflectlite.ValueOf", "(internal/reflectlite.Value).Type", "(internal/reflectlite.Value).IsNil", "internal/reflectlite.TypeOf", "(internal/reflectlite.Value).Elem", "(internal/reflectlite.Value).Set"], unfollowed := true, recurses := true, named := ["errors.errorType"], apart := false, laid := [("errors.errorType", laid_errors_errorType)] }
def LexBytesSaid : Prop := lexBytesRow.holds Tryd.pinned (OpenSpec.ofChange lexBytesSpec)

/-- ITS FALSE NEIGHBOUR: 'it returns false'. Refute it at one input. -/
def lexBytesWrong : ChangeSpec := { name := "lexBytes", fn := fun _ => fun
  | [d] => { results := [.lit (.bool false)], args := [d] }
  | _ => none }
def LexBytesWrongFalsely : Prop := lexBytesRow.holds Tryd.pinned (OpenSpec.ofChange lexBytesWrong)

/-- 'typecaselaw10.LexRemarks': WHATEVER THE INPUT: true; the input reads as it did. -/
def lexRemarksSpec : ChangeSpec := { name := "lexRemarks", fn := fun _ => fun
  | [d1, d2, d3] => { results := [.lit (.bool true)], args := [d1, d2, d3] }
  | _ => none }
def lexRemarksRow : OpenClaim := { program := "ytbkgdepblaibkaadoor", sum := "7ac67e43e6f5059a103b76f12ac3199764c785a2c0c47a3f52aee7a7c317afd2", func := "typecase/typecaselaw10.LexRemarks", spec := "lexRemarks", inPlace := ["internal/reflectlite.ValueOf", "(internal/reflectlite.Value).Type", "(internal/reflectlite.Value).IsNil", "internal/reflectlite.TypeOf", "(internal/reflectlite.Value).Elem", "(internal/reflectlite.Value).Set"], unfollowed := true, recurses := true, named := ["errors.errorType"], apart := false, laid := [("errors.errorType", laid_errors_errorType)] }
def LexRemarksSaid : Prop := lexRemarksRow.holds Tryd.pinned (OpenSpec.ofChange lexRemarksSpec)

/-- ITS FALSE NEIGHBOUR: 'it returns false'. Refute it at one input. -/
def lexRemarksWrong : ChangeSpec := { name := "lexRemarks", fn := fun _ => fun
  | [d1, d2, d3] => { results := [.lit (.bool false)], args := [d1, d2, d3] }
  | _ => none }
def LexRemarksWrongFalsely : Prop := lexRemarksRow.holds Tryd.pinned (OpenSpec.ofChange lexRemarksWrong)

/- THE SECOND FORM. 'bulk': how many values and letters a reading holds, each counted each time it is reached (what is shared counts as often as it is met; a slice's spare places count too). A statement '..UptoSaid' is the law's where the arguments, and the package variables that the reading takes, are together of bulk at most 1048576: NARROWER than '..Said'. Prove '..Said' where nothing that the law and all that it calls make is longer than what came in: it says more and counts as full. Else prove '..UptoSaid'. A law counts once. -/
mutual
def uptoBulk {H : Type} : DataW H → Nat
  | .lit (.string bytes) => bytes.length + 1
  | .lit _ => 1
  | .nil => 1
  | .ptr d => uptoBulk d + 1
  | .slice elems spare => uptoBulkAll elems + uptoBulkAll spare + 1
  | .agg parts => uptoBulkAll parts + 1
  | .iface _ d => uptoBulk d + 1
  | .map entries => uptoBulkEntries entries + 1
  | .held _ => 1
def uptoBulkAll {H : Type} : List (DataW H) → Nat
  | [] => 0
  | d :: r => uptoBulk d + uptoBulkAll r
def uptoBulkEntries {H : Type} : List (Lit × DataW H) → Nat
  | [] => 0
  | x :: r => uptoBulkEntry x + uptoBulkEntries r
def uptoBulkEntry {H : Type} : Lit × DataW H → Nat
  | (.string bytes, d) => bytes.length + uptoBulk d + 1
  | (_, d) => uptoBulk d + 1
 end
def uptoSmall : (H : Type) → List (DataW H) → Bool := fun _ ds => decide (uptoBulkAll ds ≤ 1048576)
def OpenSpec.upto (s : _root_.Go.ChangeSpec) : _root_.Go.OpenSpec := { _root_.Go.OpenSpec.ofChange s with cond := some uptoSmall }

/-- 'typecaselaw13.BlockEnds', WHERE WHAT IT READS IS OF BULK AT MOST 1048576: true; the input reads as it did. -/
def blockEndsUptoRow : OpenClaim := { program := "ytbkgdepblaibkaadoor", sum := "7ac67e43e6f5059a103b76f12ac3199764c785a2c0c47a3f52aee7a7c317afd2", func := "typecase/typecaselaw13.BlockEnds", spec := "blockEnds", inPlace := ["internal/reflectlite.ValueOf", "(internal/reflectlite.Value).Type", "(internal/reflectlite.Value).IsNil", "internal/reflectlite.TypeOf", "(internal/reflectlite.Value).Elem", "(internal/reflectlite.Value).Set"], unfollowed := true, recurses := true, named := ["errors.errorType"], apart := false, laid := [("errors.errorType", laid_errors_errorType)], narrowed := true }
def BlockEndsUptoSaid : Prop := blockEndsUptoRow.holds Tryd.pinned (OpenSpec.upto blockEndsSpec)

/-- 'typecaselaw13.BlockBehind', WHERE WHAT IT READS IS OF BULK AT MOST 1048576: true; the input reads as it did. -/
def blockBehindUptoRow : OpenClaim := { program := "ytbkgdepblaibkaadoor", sum := "7ac67e43e6f5059a103b76f12ac3199764c785a2c0c47a3f52aee7a7c317afd2", func := "typecase/typecaselaw13.BlockBehind", spec := "blockBehind", inPlace := ["internal/reflectlite.ValueOf", "(internal/reflectlite.Value).Type", "(internal/reflectlite.Value).IsNil", "internal/reflectlite.TypeOf", "(internal/reflectlite.Value).Elem", "(internal/reflectlite.Value).Set"], unfollowed := true, recurses := true, named := ["errors.errorType"], apart := false, laid := [("errors.errorType", laid_errors_errorType)], narrowed := true }
def BlockBehindUptoSaid : Prop := blockBehindUptoRow.holds Tryd.pinned (OpenSpec.upto blockBehindSpec)

/-- 'typecaselaw13.BlockWithin', WHERE WHAT IT READS IS OF BULK AT MOST 1048576: true; the input reads as it did. -/
def blockWithinUptoRow : OpenClaim := { program := "ytbkgdepblaibkaadoor", sum := "7ac67e43e6f5059a103b76f12ac3199764c785a2c0c47a3f52aee7a7c317afd2", func := "typecase/typecaselaw13.BlockWithin", spec := "blockWithin", inPlace := ["internal/reflectlite.ValueOf", "(internal/reflectlite.Value).Type", "(internal/reflectlite.Value).IsNil", "internal/reflectlite.TypeOf", "(internal/reflectlite.Value).Elem", "(internal/reflectlite.Value).Set"], unfollowed := true, recurses := true, named := ["errors.errorType"], apart := false, laid := [("errors.errorType", laid_errors_errorType)], narrowed := true }
def BlockWithinUptoSaid : Prop := blockWithinUptoRow.holds Tryd.pinned (OpenSpec.upto blockWithinSpec)

/-- 'typecaselaw13.BlockKinds', WHERE WHAT IT READS IS OF BULK AT MOST 1048576: true; the input reads as it did. -/
def blockKindsUptoRow : OpenClaim := { program := "ytbkgdepblaibkaadoor", sum := "7ac67e43e6f5059a103b76f12ac3199764c785a2c0c47a3f52aee7a7c317afd2", func := "typecase/typecaselaw13.BlockKinds", spec := "blockKinds", inPlace := ["internal/reflectlite.ValueOf", "(internal/reflectlite.Value).Type", "(internal/reflectlite.Value).IsNil", "internal/reflectlite.TypeOf", "(internal/reflectlite.Value).Elem", "(internal/reflectlite.Value).Set"], unfollowed := true, recurses := true, named := ["errors.errorType"], apart := false, laid := [("errors.errorType", laid_errors_errorType)], narrowed := true }
def BlockKindsUptoSaid : Prop := blockKindsUptoRow.holds Tryd.pinned (OpenSpec.upto blockKindsSpec)

/-- 'typecaselaw14.MacroHeads', WHERE WHAT IT READS IS OF BULK AT MOST 1048576: true; the input reads as it did. -/
def macroHeadsUptoRow : OpenClaim := { program := "ytbkgdepblaibkaadoor", sum := "7ac67e43e6f5059a103b76f12ac3199764c785a2c0c47a3f52aee7a7c317afd2", func := "typecase/typecaselaw14.MacroHeads", spec := "macroHeads", inPlace := ["internal/reflectlite.ValueOf", "(internal/reflectlite.Value).Type", "(internal/reflectlite.Value).IsNil", "internal/reflectlite.TypeOf", "(internal/reflectlite.Value).Elem", "(internal/reflectlite.Value).Set"], unfollowed := true, recurses := true, named := ["errors.errorType"], apart := false, laid := [("errors.errorType", laid_errors_errorType)], narrowed := true }
def MacroHeadsUptoSaid : Prop := macroHeadsUptoRow.holds Tryd.pinned (OpenSpec.upto macroHeadsSpec)

/-- 'typecaselaw14.MacroBinds', WHERE WHAT IT READS IS OF BULK AT MOST 1048576: true; the input reads as it did. -/
def macroBindsUptoRow : OpenClaim := { program := "ytbkgdepblaibkaadoor", sum := "7ac67e43e6f5059a103b76f12ac3199764c785a2c0c47a3f52aee7a7c317afd2", func := "typecase/typecaselaw14.MacroBinds", spec := "macroBinds", inPlace := ["internal/reflectlite.ValueOf", "(internal/reflectlite.Value).Type", "(internal/reflectlite.Value).IsNil", "internal/reflectlite.TypeOf", "(internal/reflectlite.Value).Elem", "(internal/reflectlite.Value).Set"], unfollowed := true, recurses := true, named := ["errors.errorType"], apart := false, laid := [("errors.errorType", laid_errors_errorType)], narrowed := true }
def MacroBindsUptoSaid : Prop := macroBindsUptoRow.holds Tryd.pinned (OpenSpec.upto macroBindsSpec)

/-- 'typecaselaw14.MacroParts', WHERE WHAT IT READS IS OF BULK AT MOST 1048576: true; the input reads as it did. -/
def macroPartsUptoRow : OpenClaim := { program := "ytbkgdepblaibkaadoor", sum := "7ac67e43e6f5059a103b76f12ac3199764c785a2c0c47a3f52aee7a7c317afd2", func := "typecase/typecaselaw14.MacroParts", spec := "macroParts", inPlace := ["internal/reflectlite.ValueOf", "(internal/reflectlite.Value).Type", "(internal/reflectlite.Value).IsNil", "internal/reflectlite.TypeOf", "(internal/reflectlite.Value).Elem", "(internal/reflectlite.Value).Set"], unfollowed := true, recurses := true, named := ["errors.errorType"], apart := false, laid := [("errors.errorType", laid_errors_errorType)], narrowed := true }
def MacroPartsUptoSaid : Prop := macroPartsUptoRow.holds Tryd.pinned (OpenSpec.upto macroPartsSpec)

/-- 'typecaselaw14.MacroPlain', WHERE WHAT IT READS IS OF BULK AT MOST 1048576: true; the input reads as it did. -/
def macroPlainUptoRow : OpenClaim := { program := "ytbkgdepblaibkaadoor", sum := "7ac67e43e6f5059a103b76f12ac3199764c785a2c0c47a3f52aee7a7c317afd2", func := "typecase/typecaselaw14.MacroPlain", spec := "macroPlain", inPlace := ["internal/reflectlite.ValueOf", "(internal/reflectlite.Value).Type", "(internal/reflectlite.Value).IsNil", "internal/reflectlite.TypeOf", "(internal/reflectlite.Value).Elem", "(internal/reflectlite.Value).Set"], unfollowed := true, recurses := true, named := ["errors.errorType"], apart := false, laid := [("errors.errorType", laid_errors_errorType)], narrowed := true }
def MacroPlainUptoSaid : Prop := macroPlainUptoRow.holds Tryd.pinned (OpenSpec.upto macroPlainSpec)

/-- 'typecaselaw10.LexLines', WHERE WHAT IT READS IS OF BULK AT MOST 1048576: true; the input reads as it did. -/
def lexLinesUptoRow : OpenClaim := { program := "ytbkgdepblaibkaadoor", sum := "7ac67e43e6f5059a103b76f12ac3199764c785a2c0c47a3f52aee7a7c317afd2", func := "typecase/typecaselaw10.LexLines", spec := "lexLines", inPlace := ["internal/reflectlite.ValueOf", "(internal/reflectlite.Value).Type", "(internal/reflectlite.Value).IsNil", "internal/reflectlite.TypeOf", "(internal/reflectlite.Value).Elem", "(internal/reflectlite.Value).Set"], unfollowed := true, recurses := true, named := ["errors.errorType"], apart := false, laid := [("errors.errorType", laid_errors_errorType)], narrowed := true }
def LexLinesUptoSaid : Prop := lexLinesUptoRow.holds Tryd.pinned (OpenSpec.upto lexLinesSpec)

/-- 'typecaselaw10.LexNames', WHERE WHAT IT READS IS OF BULK AT MOST 1048576: true; the input reads as it did. -/
def lexNamesUptoRow : OpenClaim := { program := "ytbkgdepblaibkaadoor", sum := "7ac67e43e6f5059a103b76f12ac3199764c785a2c0c47a3f52aee7a7c317afd2", func := "typecase/typecaselaw10.LexNames", spec := "lexNames", inPlace := ["internal/reflectlite.ValueOf", "(internal/reflectlite.Value).Type", "(internal/reflectlite.Value).IsNil", "internal/reflectlite.TypeOf", "(internal/reflectlite.Value).Elem", "(internal/reflectlite.Value).Set"], unfollowed := true, recurses := true, named := ["errors.errorType"], apart := false, laid := [("errors.errorType", laid_errors_errorType)], narrowed := true }
def LexNamesUptoSaid : Prop := lexNamesUptoRow.holds Tryd.pinned (OpenSpec.upto lexNamesSpec)

/-- 'typecaselaw10.LexParts', WHERE WHAT IT READS IS OF BULK AT MOST 1048576: true; the input reads as it did. -/
def lexPartsUptoRow : OpenClaim := { program := "ytbkgdepblaibkaadoor", sum := "7ac67e43e6f5059a103b76f12ac3199764c785a2c0c47a3f52aee7a7c317afd2", func := "typecase/typecaselaw10.LexParts", spec := "lexParts", inPlace := ["internal/reflectlite.ValueOf", "(internal/reflectlite.Value).Type", "(internal/reflectlite.Value).IsNil", "internal/reflectlite.TypeOf", "(internal/reflectlite.Value).Elem", "(internal/reflectlite.Value).Set"], unfollowed := true, recurses := true, named := ["errors.errorType"], apart := false, laid := [("errors.errorType", laid_errors_errorType)], narrowed := true }
def LexPartsUptoSaid : Prop := lexPartsUptoRow.holds Tryd.pinned (OpenSpec.upto lexPartsSpec)

/-- 'typecaselaw10.LexNumbers', WHERE WHAT IT READS IS OF BULK AT MOST 1048576: true; the input reads as it did. -/
def lexNumbersUptoRow : OpenClaim := { program := "ytbkgdepblaibkaadoor", sum := "7ac67e43e6f5059a103b76f12ac3199764c785a2c0c47a3f52aee7a7c317afd2", func := "typecase/typecaselaw10.LexNumbers", spec := "lexNumbers", inPlace := ["internal/reflectlite.ValueOf", "(internal/reflectlite.Value).Type", "(internal/reflectlite.Value).IsNil", "internal/reflectlite.TypeOf", "(internal/reflectlite.Value).Elem", "(internal/reflectlite.Value).Set"], unfollowed := true, recurses := true, named := ["errors.errorType"], apart := false, laid := [("errors.errorType", laid_errors_errorType)], narrowed := true }
def LexNumbersUptoSaid : Prop := lexNumbersUptoRow.holds Tryd.pinned (OpenSpec.upto lexNumbersSpec)

/-- 'typecaselaw10.LexBytes', WHERE WHAT IT READS IS OF BULK AT MOST 1048576: true; the input reads as it did. -/
def lexBytesUptoRow : OpenClaim := { program := "ytbkgdepblaibkaadoor", sum := "7ac67e43e6f5059a103b76f12ac3199764c785a2c0c47a3f52aee7a7c317afd2", func := "typecase/typecaselaw10.LexBytes", spec := "lexBytes", inPlace := ["internal/reflectlite.ValueOf", "(internal/reflectlite.Value).Type", "(internal/reflectlite.Value).IsNil", "internal/reflectlite.TypeOf", "(internal/reflectlite.Value).Elem", "(internal/reflectlite.Value).Set"], unfollowed := true, recurses := true, named := ["errors.errorType"], apart := false, laid := [("errors.errorType", laid_errors_errorType)], narrowed := true }
def LexBytesUptoSaid : Prop := lexBytesUptoRow.holds Tryd.pinned (OpenSpec.upto lexBytesSpec)

/-- 'typecaselaw10.LexRemarks', WHERE WHAT IT READS IS OF BULK AT MOST 1048576: true; the input reads as it did. -/
def lexRemarksUptoRow : OpenClaim := { program := "ytbkgdepblaibkaadoor", sum := "7ac67e43e6f5059a103b76f12ac3199764c785a2c0c47a3f52aee7a7c317afd2", func := "typecase/typecaselaw10.LexRemarks", spec := "lexRemarks", inPlace := ["internal/reflectlite.ValueOf", "(internal/reflectlite.Value).Type", "(internal/reflectlite.Value).IsNil", "internal/reflectlite.TypeOf", "(internal/reflectlite.Value).Elem", "(internal/reflectlite.Value).Set"], unfollowed := true, recurses := true, named := ["errors.errorType"], apart := false, laid := [("errors.errorType", laid_errors_errorType)], narrowed := true }
def LexRemarksUptoSaid : Prop := lexRemarksUptoRow.holds Tryd.pinned (OpenSpec.upto lexRemarksSpec)

end Rows
end Go.Proofs.YtbkgdepblaibkaaDoor
